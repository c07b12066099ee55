-- Printed by a wrapper of this session's round the kit's print.py; Lean checks it.
import Derived.Test.YtfpbibfoipbahaaDoorPWideReckonsx0
import Derived.Test.YtfpbibfoipbahaaDoorPWideReckonsx1
import Derived.Test.YtfpbibfoipbahaaDoorPWideReckonsx2
import Derived.Test.YtfpbibfoipbahaaDoorPWideReckonsx3
import Derived.Test.YtfpbibfoipbahaaDoorPWideReckonsx4
import Derived.Test.YtfpbibfoipbahaaDoorPWideReckonsx5
namespace Go.Proofs.YtfpbibfoipbahaaDoor.PWideReckons
open Go.RowKit Go.Proofs.YtfpbibfoipbahaaDoorW.PrintWords Go.Proofs.YtfpbibfoipbahaaDoorW.PrintLast Go.Proofs.YtfpbibfoipbahaaDoorW.PrintMore
attribute [local go_sem] max2_int min2_int max_two min_two max_three min_three max_four min_four   -- for this text's walks alone
set_option linter.unusedVariables false
set_option linter.unusedSimpArgs false

attribute [local go_sem high] eqA36
/-! ### arrearslaw03_WideReckons: function 6 -/
def arrearslaw03_WideReckons.j0 : Nat → Int → Int → Int → Bool → Int → Int → Int → Int → Int → Int → Int → Int → Int → Int → Int → Int → Int → Int → Int → Int → Int → Int → Int → Int → Option (Bool)
 | 0, _, _, _, _, _, _, _, _, _, _, _, _, _, _, _, _, _, _, _, _, _, _, _, _ => none
 | k + 1, x0, x2, x4, x119, x137000, x137001, x138000, x138001, x155000, x155001, x155002, x155003, x155004, x155005, x155006, x155007, x156000, x156001, x156002, x156003, x156004, x156005, x156006, x156007 => if x119 = true then (some false) else ((wide_Wide_Div.f k x137000 x137001 x4).bind fun bt203 => (if x4 = 0 then ((api_Code.f bt203.2.2.2).bind fun t208 => (if t208 = 1 then ((wide_Mul.f x0 x2).bind fun bt209 => ((arrearsref03_Mul.f x0 x2).bind fun bt211 => ((arrearslaw03_same.f bt209.1 bt209.2 bt211.1 bt211.2.1 bt211.2.2.1 bt211.2.2.2.1 bt211.2.2.2.2.1 bt211.2.2.2.2.2.1 bt211.2.2.2.2.2.2.1 bt211.2.2.2.2.2.2.2).bind fun t219 => (if t219 = true then ((wide_Wide_Less.f x137000 x137001 x138000 x138001).bind fun t220 => ((arrearsref03_Less.f x155000 x155001 x155002 x155003 x155004 x155005 x155006 x155007 x156000 x156001 x156002 x156003 x156004 x156005 x156006 x156007).bind fun t221 => (some (t220 == t221)))) else (some false))))) else (some false))) else ((arrearsref03_Div.f x155000 x155001 x155002 x155003 x155004 x155005 x155006 x155007 x4).bind fun bt222 => (if bt203.2.2.2.isNone = true then ((arrearslaw03_same.f bt203.1 bt203.2.1 bt222.1 bt222.2.1 bt222.2.2.1 bt222.2.2.2.1 bt222.2.2.2.2.1 bt222.2.2.2.2.2.1 bt222.2.2.2.2.2.2.1 bt222.2.2.2.2.2.2.2.1).bind fun t233 => (if t233 = true then (if bt203.2.2.1 = bt222.2.2.2.2.2.2.2.2 then ((wide_Mul.f x0 x2).bind fun bt234 => ((arrearsref03_Mul.f x0 x2).bind fun bt236 => ((arrearslaw03_same.f bt234.1 bt234.2 bt236.1 bt236.2.1 bt236.2.2.1 bt236.2.2.2.1 bt236.2.2.2.2.1 bt236.2.2.2.2.2.1 bt236.2.2.2.2.2.2.1 bt236.2.2.2.2.2.2.2).bind fun t244 => (if t244 = true then ((wide_Wide_Less.f x137000 x137001 x138000 x138001).bind fun t245 => ((arrearsref03_Less.f x155000 x155001 x155002 x155003 x155004 x155005 x155006 x155007 x156000 x156001 x156002 x156003 x156004 x156005 x156006 x156007).bind fun t246 => (some (t245 == t246)))) else (some false))))) else (some false)) else (some false))) else (some false)))))
def arrearslaw03_WideReckons.f (k : Nat) (a0 : Int) (a1 : Int) (a2 : Int) (a3 : Int) (a4 : Int) : Option (Bool) := (arrearslaw03_awake.f k).bind fun t135 => (if t135 = true then ((arrearsref03_Of.f a0 a1).bind fun bt138 => ((arrearsref03_Of.f a2 a3).bind fun bt146 => ((wide_Wide_Plus.f a0 a1 a2 a3).bind fun bt156 => ((arrearsref03_Add.f bt138.1 bt138.2.1 bt138.2.2.1 bt138.2.2.2.1 bt138.2.2.2.2.1 bt138.2.2.2.2.2.1 bt138.2.2.2.2.2.2.1 bt138.2.2.2.2.2.2.2 bt146.1 bt146.2.1 bt146.2.2.1 bt146.2.2.2.1 bt146.2.2.2.2.1 bt146.2.2.2.2.2.1 bt146.2.2.2.2.2.2.1 bt146.2.2.2.2.2.2.2).bind fun bt160 => ((wide_Wide_Add.f a0 a1 a4).bind fun bt170 => ((arrearsref03_Of.f 0 a4).bind fun bt174 => ((arrearsref03_Add.f bt138.1 bt138.2.1 bt138.2.2.1 bt138.2.2.2.1 bt138.2.2.2.2.1 bt138.2.2.2.2.2.1 bt138.2.2.2.2.2.2.1 bt138.2.2.2.2.2.2.2 bt174.1 bt174.2.1 bt174.2.2.1 bt174.2.2.2.1 bt174.2.2.2.2.1 bt174.2.2.2.2.2.1 bt174.2.2.2.2.2.2.1 bt174.2.2.2.2.2.2.2).bind fun bt182 => (if bt156.2.2.isNone = true then (if (true != bt160.2.2.2.2.2.2.2.2) = true then (arrearslaw03_WideReckons.j0 k a0 a2 a4 true a0 a1 a2 a3 bt138.1 bt138.2.1 bt138.2.2.1 bt138.2.2.2.1 bt138.2.2.2.2.1 bt138.2.2.2.2.2.1 bt138.2.2.2.2.2.2.1 bt138.2.2.2.2.2.2.2 bt146.1 bt146.2.1 bt146.2.2.1 bt146.2.2.2.1 bt146.2.2.2.2.1 bt146.2.2.2.2.2.1 bt146.2.2.2.2.2.2.1 bt146.2.2.2.2.2.2.2) else (if bt170.2.2.isNone = true then (if (true != bt182.2.2.2.2.2.2.2.2) = true then (arrearslaw03_WideReckons.j0 k a0 a2 a4 true a0 a1 a2 a3 bt138.1 bt138.2.1 bt138.2.2.1 bt138.2.2.2.1 bt138.2.2.2.2.1 bt138.2.2.2.2.2.1 bt138.2.2.2.2.2.2.1 bt138.2.2.2.2.2.2.2 bt146.1 bt146.2.1 bt146.2.2.1 bt146.2.2.2.1 bt146.2.2.2.2.1 bt146.2.2.2.2.2.1 bt146.2.2.2.2.2.2.1 bt146.2.2.2.2.2.2.2) else ((arrearslaw03_same.f bt156.1 bt156.2.1 bt160.1 bt160.2.1 bt160.2.2.1 bt160.2.2.2.1 bt160.2.2.2.2.1 bt160.2.2.2.2.2.1 bt160.2.2.2.2.2.2.1 bt160.2.2.2.2.2.2.2.1).bind fun t194 => (if t194 = true then ((arrearslaw03_same.f bt170.1 bt170.2.1 bt182.1 bt182.2.1 bt182.2.2.1 bt182.2.2.2.1 bt182.2.2.2.2.1 bt182.2.2.2.2.2.1 bt182.2.2.2.2.2.2.1 bt182.2.2.2.2.2.2.2.1).bind fun t195 => (if t195 = true then (arrearslaw03_WideReckons.j0 k a0 a2 a4 false a0 a1 a2 a3 bt138.1 bt138.2.1 bt138.2.2.1 bt138.2.2.2.1 bt138.2.2.2.2.1 bt138.2.2.2.2.2.1 bt138.2.2.2.2.2.2.1 bt138.2.2.2.2.2.2.2 bt146.1 bt146.2.1 bt146.2.2.1 bt146.2.2.2.1 bt146.2.2.2.2.1 bt146.2.2.2.2.2.1 bt146.2.2.2.2.2.2.1 bt146.2.2.2.2.2.2.2) else (arrearslaw03_WideReckons.j0 k a0 a2 a4 true a0 a1 a2 a3 bt138.1 bt138.2.1 bt138.2.2.1 bt138.2.2.2.1 bt138.2.2.2.2.1 bt138.2.2.2.2.2.1 bt138.2.2.2.2.2.2.1 bt138.2.2.2.2.2.2.2 bt146.1 bt146.2.1 bt146.2.2.1 bt146.2.2.2.1 bt146.2.2.2.2.1 bt146.2.2.2.2.2.1 bt146.2.2.2.2.2.2.1 bt146.2.2.2.2.2.2.2))) else (arrearslaw03_WideReckons.j0 k a0 a2 a4 true a0 a1 a2 a3 bt138.1 bt138.2.1 bt138.2.2.1 bt138.2.2.2.1 bt138.2.2.2.2.1 bt138.2.2.2.2.2.1 bt138.2.2.2.2.2.2.1 bt138.2.2.2.2.2.2.2 bt146.1 bt146.2.1 bt146.2.2.1 bt146.2.2.2.1 bt146.2.2.2.2.1 bt146.2.2.2.2.2.1 bt146.2.2.2.2.2.2.1 bt146.2.2.2.2.2.2.2)))) else (if (false != bt182.2.2.2.2.2.2.2.2) = true then (arrearslaw03_WideReckons.j0 k a0 a2 a4 true a0 a1 a2 a3 bt138.1 bt138.2.1 bt138.2.2.1 bt138.2.2.2.1 bt138.2.2.2.2.1 bt138.2.2.2.2.2.1 bt138.2.2.2.2.2.2.1 bt138.2.2.2.2.2.2.2 bt146.1 bt146.2.1 bt146.2.2.1 bt146.2.2.2.1 bt146.2.2.2.2.1 bt146.2.2.2.2.2.1 bt146.2.2.2.2.2.2.1 bt146.2.2.2.2.2.2.2) else ((arrearslaw03_same.f bt156.1 bt156.2.1 bt160.1 bt160.2.1 bt160.2.2.1 bt160.2.2.2.1 bt160.2.2.2.2.1 bt160.2.2.2.2.2.1 bt160.2.2.2.2.2.2.1 bt160.2.2.2.2.2.2.2.1).bind fun t196 => (if t196 = true then ((api_Code.f (some (bt170.2.2.getD 0))).bind fun t197 => (arrearslaw03_WideReckons.j0 k a0 a2 a4 (t197 != 12) a0 a1 a2 a3 bt138.1 bt138.2.1 bt138.2.2.1 bt138.2.2.2.1 bt138.2.2.2.2.1 bt138.2.2.2.2.2.1 bt138.2.2.2.2.2.2.1 bt138.2.2.2.2.2.2.2 bt146.1 bt146.2.1 bt146.2.2.1 bt146.2.2.2.1 bt146.2.2.2.2.1 bt146.2.2.2.2.2.1 bt146.2.2.2.2.2.2.1 bt146.2.2.2.2.2.2.2)) else (arrearslaw03_WideReckons.j0 k a0 a2 a4 true a0 a1 a2 a3 bt138.1 bt138.2.1 bt138.2.2.1 bt138.2.2.2.1 bt138.2.2.2.2.1 bt138.2.2.2.2.2.1 bt138.2.2.2.2.2.2.1 bt138.2.2.2.2.2.2.2 bt146.1 bt146.2.1 bt146.2.2.1 bt146.2.2.2.1 bt146.2.2.2.2.1 bt146.2.2.2.2.2.1 bt146.2.2.2.2.2.2.1 bt146.2.2.2.2.2.2.2)))))) else (if (false != bt160.2.2.2.2.2.2.2.2) = true then (arrearslaw03_WideReckons.j0 k a0 a2 a4 true a0 a1 a2 a3 bt138.1 bt138.2.1 bt138.2.2.1 bt138.2.2.2.1 bt138.2.2.2.2.1 bt138.2.2.2.2.2.1 bt138.2.2.2.2.2.2.1 bt138.2.2.2.2.2.2.2 bt146.1 bt146.2.1 bt146.2.2.1 bt146.2.2.2.1 bt146.2.2.2.2.1 bt146.2.2.2.2.2.1 bt146.2.2.2.2.2.2.1 bt146.2.2.2.2.2.2.2) else (if bt170.2.2.isNone = true then (if (true != bt182.2.2.2.2.2.2.2.2) = true then (arrearslaw03_WideReckons.j0 k a0 a2 a4 true a0 a1 a2 a3 bt138.1 bt138.2.1 bt138.2.2.1 bt138.2.2.2.1 bt138.2.2.2.2.1 bt138.2.2.2.2.2.1 bt138.2.2.2.2.2.2.1 bt138.2.2.2.2.2.2.2 bt146.1 bt146.2.1 bt146.2.2.1 bt146.2.2.2.1 bt146.2.2.2.2.1 bt146.2.2.2.2.2.1 bt146.2.2.2.2.2.2.1 bt146.2.2.2.2.2.2.2) else ((arrearslaw03_same.f bt170.1 bt170.2.1 bt182.1 bt182.2.1 bt182.2.2.1 bt182.2.2.2.1 bt182.2.2.2.2.1 bt182.2.2.2.2.2.1 bt182.2.2.2.2.2.2.1 bt182.2.2.2.2.2.2.2.1).bind fun t199 => (if t199 = true then ((api_Code.f (some (bt156.2.2.getD 0))).bind fun t200 => (if t200 = 12 then (if (!(bt156.1 == 0) || (!(bt156.2.1 == 0))) = true then (arrearslaw03_WideReckons.j0 k a0 a2 a4 true a0 a1 a2 a3 bt138.1 bt138.2.1 bt138.2.2.1 bt138.2.2.2.1 bt138.2.2.2.2.1 bt138.2.2.2.2.2.1 bt138.2.2.2.2.2.2.1 bt138.2.2.2.2.2.2.2 bt146.1 bt146.2.1 bt146.2.2.1 bt146.2.2.2.1 bt146.2.2.2.2.1 bt146.2.2.2.2.2.1 bt146.2.2.2.2.2.2.1 bt146.2.2.2.2.2.2.2) else (arrearslaw03_WideReckons.j0 k a0 a2 a4 false a0 a1 a2 a3 bt138.1 bt138.2.1 bt138.2.2.1 bt138.2.2.2.1 bt138.2.2.2.2.1 bt138.2.2.2.2.2.1 bt138.2.2.2.2.2.2.1 bt138.2.2.2.2.2.2.2 bt146.1 bt146.2.1 bt146.2.2.1 bt146.2.2.2.1 bt146.2.2.2.2.1 bt146.2.2.2.2.2.1 bt146.2.2.2.2.2.2.1 bt146.2.2.2.2.2.2.2)) else (arrearslaw03_WideReckons.j0 k a0 a2 a4 true a0 a1 a2 a3 bt138.1 bt138.2.1 bt138.2.2.1 bt138.2.2.2.1 bt138.2.2.2.2.1 bt138.2.2.2.2.2.1 bt138.2.2.2.2.2.2.1 bt138.2.2.2.2.2.2.2 bt146.1 bt146.2.1 bt146.2.2.1 bt146.2.2.2.1 bt146.2.2.2.2.1 bt146.2.2.2.2.2.1 bt146.2.2.2.2.2.2.1 bt146.2.2.2.2.2.2.2))) else (arrearslaw03_WideReckons.j0 k a0 a2 a4 true a0 a1 a2 a3 bt138.1 bt138.2.1 bt138.2.2.1 bt138.2.2.2.1 bt138.2.2.2.2.1 bt138.2.2.2.2.2.1 bt138.2.2.2.2.2.2.1 bt138.2.2.2.2.2.2.2 bt146.1 bt146.2.1 bt146.2.2.1 bt146.2.2.2.1 bt146.2.2.2.2.1 bt146.2.2.2.2.2.1 bt146.2.2.2.2.2.2.1 bt146.2.2.2.2.2.2.2)))) else (if (false != bt182.2.2.2.2.2.2.2.2) = true then (arrearslaw03_WideReckons.j0 k a0 a2 a4 true a0 a1 a2 a3 bt138.1 bt138.2.1 bt138.2.2.1 bt138.2.2.2.1 bt138.2.2.2.2.1 bt138.2.2.2.2.2.1 bt138.2.2.2.2.2.2.1 bt138.2.2.2.2.2.2.2 bt146.1 bt146.2.1 bt146.2.2.1 bt146.2.2.2.1 bt146.2.2.2.2.1 bt146.2.2.2.2.2.1 bt146.2.2.2.2.2.2.1 bt146.2.2.2.2.2.2.2) else ((api_Code.f (some (bt156.2.2.getD 0))).bind fun t201 => (if t201 = 12 then (if (!(bt156.1 == 0) || (!(bt156.2.1 == 0))) = true then (arrearslaw03_WideReckons.j0 k a0 a2 a4 true a0 a1 a2 a3 bt138.1 bt138.2.1 bt138.2.2.1 bt138.2.2.2.1 bt138.2.2.2.2.1 bt138.2.2.2.2.2.1 bt138.2.2.2.2.2.2.1 bt138.2.2.2.2.2.2.2 bt146.1 bt146.2.1 bt146.2.2.1 bt146.2.2.2.1 bt146.2.2.2.2.1 bt146.2.2.2.2.2.1 bt146.2.2.2.2.2.2.1 bt146.2.2.2.2.2.2.2) else ((api_Code.f (some (bt170.2.2.getD 0))).bind fun t202 => (arrearslaw03_WideReckons.j0 k a0 a2 a4 (t202 != 12) a0 a1 a2 a3 bt138.1 bt138.2.1 bt138.2.2.1 bt138.2.2.2.1 bt138.2.2.2.2.1 bt138.2.2.2.2.2.1 bt138.2.2.2.2.2.2.1 bt138.2.2.2.2.2.2.2 bt146.1 bt146.2.1 bt146.2.2.1 bt146.2.2.2.1 bt146.2.2.2.2.1 bt146.2.2.2.2.2.1 bt146.2.2.2.2.2.2.1 bt146.2.2.2.2.2.2.2))) else (arrearslaw03_WideReckons.j0 k a0 a2 a4 true a0 a1 a2 a3 bt138.1 bt138.2.1 bt138.2.2.1 bt138.2.2.2.1 bt138.2.2.2.2.1 bt138.2.2.2.2.2.1 bt138.2.2.2.2.2.2.1 bt138.2.2.2.2.2.2.2 bt146.1 bt146.2.1 bt146.2.2.1 bt146.2.2.2.1 bt146.2.2.2.2.1 bt146.2.2.2.2.2.1 bt146.2.2.2.2.2.2.1 bt146.2.2.2.2.2.2.2)))))))))))))) else (some false))
theorem arrearslaw03_WideReckons.mono_l : ∀ k, (∀ y0 y1 y2 y3 y4 y5 y6 y7 y8 y9 y10 y11 y12 y13 y14 y15 y16 y17 y18 y19 y20 y21 y22 y23, LeO (arrearslaw03_WideReckons.j0 k y0 y1 y2 y3 y4 y5 y6 y7 y8 y9 y10 y11 y12 y13 y14 y15 y16 y17 y18 y19 y20 y21 y22 y23) (arrearslaw03_WideReckons.j0 (k + 1) y0 y1 y2 y3 y4 y5 y6 y7 y8 y9 y10 y11 y12 y13 y14 y15 y16 y17 y18 y19 y20 y21 y22 y23))
 | 0 => fun _ _ _ _ _ _ _ _ _ _ _ _ _ _ _ _ _ _ _ _ _ _ _ _ r h => by simp [arrearslaw03_WideReckons.j0] at h
 | k + 1 => by
  have ih0 := arrearslaw03_WideReckons.mono_l k
  ·
   intro y0 y1 y2 y3 y4 y5 y6 y7 y8 y9 y10 y11 y12 y13 y14 y15 y16 y17 y18 y19 y20 y21 y22 y23
   unfold arrearslaw03_WideReckons.j0
   repeat' first
   | (with_reducible exact ih0 _ _ _ _ _ _ _ _ _ _ _ _ _ _ _ _ _ _ _ _ _ _ _ _)
   | (with_reducible exact arrearslaw03_awake.mono _)
   | (with_reducible exact wide_Wide_Div.mono _ _ _ _)
   | (with_reducible exact LeO.refl _)
   | (with_reducible exact LeO.none _)
   | (with_reducible refine LeO.ite ?_ ?_)
   | (with_reducible refine LeO.bind ?_ (fun _ => ?_))
   | exact ih0 _ _ _ _ _ _ _ _ _ _ _ _ _ _ _ _ _ _ _ _ _ _ _ _
   | exact arrearslaw03_awake.mono _
   | exact wide_Wide_Div.mono _ _ _ _
   | exact LeO.none _
   | refine LeO.ite ?_ ?_
   | refine LeO.bind ?_ (fun _ => ?_)
theorem arrearslaw03_WideReckons.mono : ∀ a0 a1 a2 a3 a4 k, LeO (arrearslaw03_WideReckons.f k a0 a1 a2 a3 a4) (arrearslaw03_WideReckons.f (k + 1) a0 a1 a2 a3 a4) := by
 intro a0 a1 a2 a3 a4 k
 have ih0 := arrearslaw03_WideReckons.mono_l k
 unfold arrearslaw03_WideReckons.f
 repeat' first
   | (with_reducible exact ih0 _ _ _ _ _ _ _ _ _ _ _ _ _ _ _ _ _ _ _ _ _ _ _ _)
   | (with_reducible exact arrearslaw03_awake.mono _)
   | (with_reducible exact wide_Wide_Div.mono _ _ _ _)
   | (with_reducible exact LeO.refl _)
   | (with_reducible exact LeO.none _)
   | (with_reducible refine LeO.ite ?_ ?_)
   | (with_reducible refine LeO.bind ?_ (fun _ => ?_))
   | exact ih0 _ _ _ _ _ _ _ _ _ _ _ _ _ _ _ _ _ _ _ _ _ _ _ _
   | exact arrearslaw03_awake.mono _
   | exact wide_Wide_Div.mono _ _ _ _
   | exact LeO.none _
   | refine LeO.ite ?_ ?_
   | refine LeO.bind ?_ (fun _ => ?_)
abbrev T_ : Bool := true
abbrev F_ : Bool := false
theorem wrq {w0 w w1 : World} {g : Nat} {o : Obj} (x : w0.heap[g]? = some o) (hb : Below w.heap.size w w1) (h : w0.heap[g]? = some o → w.heap[g]? = some o := by intro h; (with_reducible repeat (first | refine blk_drewN ?_ _ | refine blk_drew ?_ | refine blk_alloc ?_ _)); exact h) : w1.heap[g]? = some o := blk_below (h x) hb
theorem wrx {w0 w : World} {g : Nat} {o : Obj} (x : w0.heap[g]? = some o) (h : w0.heap[g]? = some o → w.heap[g]? = some o := by intro h; (with_reducible repeat (first | refine blk_drewN ?_ _ | refine blk_drew ?_ | refine blk_alloc ?_ _)); exact h) : w.heap[g]? = some o := h x
theorem wrf {w0 w : World} {g : Nat} {o : Obj} (x : w0.heap[g]? = some o) (h : w0.heap[g]? = some o → w.heap[g]? = some o := by intro h; (repeat (first | (with_reducible first | refine blk_drewN ?_ _ | refine blk_drew ?_ | refine blk_alloc ?_ _) | refine blk_far ?_ (Aside0.out (by assumption)) _)); exact h) : w.heap[g]? = some o := h x
theorem wrs {w0 w1 w : World} (x : Below w0.heap.size w0 w1) (h : Below w0.heap.size w0 w1 → Below w0.heap.size w0 w := by intro h; repeat (first | (with_reducible first | exact h | apply below_alloc | apply pw_below_drewN | apply below_drew1 | refine below_set ?_ (Aside0.out (by assumption))) | exact h)) : Below w0.heap.size w0 w := h x
theorem wrfalse {k : Nat} {a0 a2 a4 a5 a6 a7 a8 b0 b1 b2 b3 b4 b5 b6 b7 c0 c1 c2 c3 c4 c5 c6 c7 : Int} {r : Bool} (h : arrearslaw03_WideReckons.j0 k a0 a2 a4 true a5 a6 a7 a8 b0 b1 b2 b3 b4 b5 b6 b7 c0 c1 c2 c3 c4 c5 c6 c7 = some r) (hr : r = true) {p : Prop} : p := by
  subst hr
  cases k with
  | zero => simp [arrearslaw03_WideReckons.j0] at h
  | succ k => simp [arrearslaw03_WideReckons.j0] at h
def arrearslaw03_WideReckons.T8 : Bool × List (List Nat × List Nat) := (true, [([], []), ([], []), ([1], [1]), ([0, 2, 2], [0, 2]), ([3], [3]), ([4], [4]), ([4], [4]), ([], []), ([7, 5, 3, 0, 1, 2, 3, 4, 5, 7], [5, 7]), ([6, 8, 0, 1, 2, 3, 4, 5, 6, 7, 8], [6])])
def arrearslaw03_WideReckons.B8 : List Nat := [0, 0, 2, 7, 15, 31, 31, 0, 191, 511]
theorem arrearslaw03_WideReckons.tab8 : rtab .any (opsOf Tryd.f6 8) = arrearslaw03_WideReckons.T8 := by kernel_rfl
theorem arrearslaw03_WideReckons.bits8 : waitsOk arrearslaw03_WideReckons.T8.2 arrearslaw03_WideReckons.B8 = true := by kernel_rfl
def arrearslaw03_WideReckons.T13 : Bool × List (List Nat × List Nat) := (true, [([], []), ([0], [0]), ([1], [1]), ([2, 1], [2]), ([3], [3]), ([3], [3]), ([4, 5, 3, 3], [3, 4, 5]), ([3], [3]), ([3], [3]), ([7, 8, 6, 3], [3, 7, 8]), ([6, 9, 9, 3], [3, 6, 9]), ([3, 10], [3, 10]), ([11, 10], [11]), ([12], [12]), ([12], [12]), ([13, 14, 12, 12], [12, 13, 14]), ([12], [12]), ([12], [12]), ([16, 17, 15, 12], [12, 16, 17]), ([15, 18, 12], [12, 15, 18]), ([12, 19], [12, 19]), ([20, 18, 0, 1, 2, 3, 4, 5, 6, 7, 8, 9, 10, 11, 12, 13, 14, 15, 16, 17, 18, 19, 20], [20])])
def arrearslaw03_WideReckons.B13 : List Nat := [0, 1, 3, 7, 15, 15, 63, 15, 15, 511, 1023, 2047, 4095, 8191, 8191, 32767, 8191, 8191, 262143, 524287, 1048575, 2097151]
theorem arrearslaw03_WideReckons.tab13 : rtab .any (opsOf Tryd.f6 13) = arrearslaw03_WideReckons.T13 := by kernel_rfl
theorem arrearslaw03_WideReckons.bits13 : waitsOk arrearslaw03_WideReckons.T13.2 arrearslaw03_WideReckons.B13 = true := by kernel_rfl
def arrearslaw03_WideReckons.T15 : Bool × List (List Nat × List Nat) := (true, [([], []), ([0], [0]), ([1], [1]), ([2], [2]), ([2], [2]), ([3, 4, 2, 2], [2, 3, 4]), ([2, 5], [2, 5]), ([6, 5], [6]), ([7], [7]), ([7], [7]), ([8, 9, 7], [7, 8, 9]), ([7, 10], [7, 10]), ([11, 7], [11]), ([12], [12]), ([12], [12]), ([13, 14, 12, 12], [12, 13, 14]), ([12], [12]), ([12], [12]), ([16, 17, 15, 12], [12, 16, 17]), ([15, 18, 18, 12], [12, 15, 18]), ([12, 19], [12, 19]), ([20, 19], [20]), ([21], [21]), ([21], [21]), ([22, 23, 21, 21], [21, 22, 23]), ([21], [21]), ([21], [21]), ([25, 26, 24, 21], [21, 25, 26]), ([24, 27, 21], [21, 24, 27]), ([21, 28], [21, 28]), ([29, 27, 0, 1, 2, 3, 4, 5, 6, 7, 8, 9, 10, 11, 12, 13, 14, 15, 16, 17, 18, 19, 20, 21, 22, 23, 24, 25, 26, 27, 28, 29], [29])])
def arrearslaw03_WideReckons.B15 : List Nat := [0, 1, 3, 7, 7, 31, 63, 127, 255, 255, 1023, 2047, 4095, 8191, 8191, 32767, 8191, 8191, 262143, 524287, 1048575, 2097151, 4194303, 4194303, 16777215, 4194303, 4194303, 134217727, 268435455, 536870911, 1073741823]
theorem arrearslaw03_WideReckons.tab15 : rtab .any (opsOf Tryd.f6 15) = arrearslaw03_WideReckons.T15 := by kernel_rfl
theorem arrearslaw03_WideReckons.bits15 : waitsOk arrearslaw03_WideReckons.T15.2 arrearslaw03_WideReckons.B15 = true := by kernel_rfl
set_option maxHeartbeats 8000000 in
set_option maxRecDepth 100000 in
theorem arrearslaw03_WideReckons.calls (k : Nat) (a0 : Int) (a1 : Int) (a2 : Int) (a3 : Int) (a4 : Int) (r : Bool) (w : World) (hG : Go.Proofs.YtfpbibfoipbahaaDoor.M.Laid w) (h : arrearslaw03_WideReckons.f k a0 a1 a2 a3 a4 = some r) (hr : r = true) :
  Calls Tryd.prog 6 #[.int .u64 a0, .int .u64 a1, .int .u64 a2, .int .u64 a3, .int .u64 a4] w fun e w' => e = .returned (.bool r) ∧ Below w.heap.size w w' := by
 have hu36 := Tryd.underlying36
 have hu46 := Tryd.underlying46
 have hu25 := Tryd.underlying25
 have hu30 := Tryd.underlying30
 have HB := Aside0.mk (Below.refl w.heap.size w)
 have HG := Aside0.mk hG
 clear hG
 have HR := Aside0.mk hr
 clear hr
 have H : ((arrearslaw03_awake.f k).bind fun t135 => (if t135 = true then ((arrearsref03_Of.f a0 a1).bind fun bt138 => ((arrearsref03_Of.f a2 a3).bind fun bt146 => ((wide_Wide_Plus.f a0 a1 a2 a3).bind fun bt156 => ((arrearsref03_Add.f bt138.1 bt138.2.1 bt138.2.2.1 bt138.2.2.2.1 bt138.2.2.2.2.1 bt138.2.2.2.2.2.1 bt138.2.2.2.2.2.2.1 bt138.2.2.2.2.2.2.2 bt146.1 bt146.2.1 bt146.2.2.1 bt146.2.2.2.1 bt146.2.2.2.2.1 bt146.2.2.2.2.2.1 bt146.2.2.2.2.2.2.1 bt146.2.2.2.2.2.2.2).bind fun bt160 => ((wide_Wide_Add.f a0 a1 a4).bind fun bt170 => ((arrearsref03_Of.f 0 a4).bind fun bt174 => ((arrearsref03_Add.f bt138.1 bt138.2.1 bt138.2.2.1 bt138.2.2.2.1 bt138.2.2.2.2.1 bt138.2.2.2.2.2.1 bt138.2.2.2.2.2.2.1 bt138.2.2.2.2.2.2.2 bt174.1 bt174.2.1 bt174.2.2.1 bt174.2.2.2.1 bt174.2.2.2.2.1 bt174.2.2.2.2.2.1 bt174.2.2.2.2.2.2.1 bt174.2.2.2.2.2.2.2).bind fun bt182 => (if bt156.2.2.isNone = true then (if (true != bt160.2.2.2.2.2.2.2.2) = true then (arrearslaw03_WideReckons.j0 k a0 a2 a4 true a0 a1 a2 a3 bt138.1 bt138.2.1 bt138.2.2.1 bt138.2.2.2.1 bt138.2.2.2.2.1 bt138.2.2.2.2.2.1 bt138.2.2.2.2.2.2.1 bt138.2.2.2.2.2.2.2 bt146.1 bt146.2.1 bt146.2.2.1 bt146.2.2.2.1 bt146.2.2.2.2.1 bt146.2.2.2.2.2.1 bt146.2.2.2.2.2.2.1 bt146.2.2.2.2.2.2.2) else (if bt170.2.2.isNone = true then (if (true != bt182.2.2.2.2.2.2.2.2) = true then (arrearslaw03_WideReckons.j0 k a0 a2 a4 true a0 a1 a2 a3 bt138.1 bt138.2.1 bt138.2.2.1 bt138.2.2.2.1 bt138.2.2.2.2.1 bt138.2.2.2.2.2.1 bt138.2.2.2.2.2.2.1 bt138.2.2.2.2.2.2.2 bt146.1 bt146.2.1 bt146.2.2.1 bt146.2.2.2.1 bt146.2.2.2.2.1 bt146.2.2.2.2.2.1 bt146.2.2.2.2.2.2.1 bt146.2.2.2.2.2.2.2) else ((arrearslaw03_same.f bt156.1 bt156.2.1 bt160.1 bt160.2.1 bt160.2.2.1 bt160.2.2.2.1 bt160.2.2.2.2.1 bt160.2.2.2.2.2.1 bt160.2.2.2.2.2.2.1 bt160.2.2.2.2.2.2.2.1).bind fun t194 => (if t194 = true then ((arrearslaw03_same.f bt170.1 bt170.2.1 bt182.1 bt182.2.1 bt182.2.2.1 bt182.2.2.2.1 bt182.2.2.2.2.1 bt182.2.2.2.2.2.1 bt182.2.2.2.2.2.2.1 bt182.2.2.2.2.2.2.2.1).bind fun t195 => (if t195 = true then (arrearslaw03_WideReckons.j0 k a0 a2 a4 false a0 a1 a2 a3 bt138.1 bt138.2.1 bt138.2.2.1 bt138.2.2.2.1 bt138.2.2.2.2.1 bt138.2.2.2.2.2.1 bt138.2.2.2.2.2.2.1 bt138.2.2.2.2.2.2.2 bt146.1 bt146.2.1 bt146.2.2.1 bt146.2.2.2.1 bt146.2.2.2.2.1 bt146.2.2.2.2.2.1 bt146.2.2.2.2.2.2.1 bt146.2.2.2.2.2.2.2) else (arrearslaw03_WideReckons.j0 k a0 a2 a4 true a0 a1 a2 a3 bt138.1 bt138.2.1 bt138.2.2.1 bt138.2.2.2.1 bt138.2.2.2.2.1 bt138.2.2.2.2.2.1 bt138.2.2.2.2.2.2.1 bt138.2.2.2.2.2.2.2 bt146.1 bt146.2.1 bt146.2.2.1 bt146.2.2.2.1 bt146.2.2.2.2.1 bt146.2.2.2.2.2.1 bt146.2.2.2.2.2.2.1 bt146.2.2.2.2.2.2.2))) else (arrearslaw03_WideReckons.j0 k a0 a2 a4 true a0 a1 a2 a3 bt138.1 bt138.2.1 bt138.2.2.1 bt138.2.2.2.1 bt138.2.2.2.2.1 bt138.2.2.2.2.2.1 bt138.2.2.2.2.2.2.1 bt138.2.2.2.2.2.2.2 bt146.1 bt146.2.1 bt146.2.2.1 bt146.2.2.2.1 bt146.2.2.2.2.1 bt146.2.2.2.2.2.1 bt146.2.2.2.2.2.2.1 bt146.2.2.2.2.2.2.2)))) else (if (false != bt182.2.2.2.2.2.2.2.2) = true then (arrearslaw03_WideReckons.j0 k a0 a2 a4 true a0 a1 a2 a3 bt138.1 bt138.2.1 bt138.2.2.1 bt138.2.2.2.1 bt138.2.2.2.2.1 bt138.2.2.2.2.2.1 bt138.2.2.2.2.2.2.1 bt138.2.2.2.2.2.2.2 bt146.1 bt146.2.1 bt146.2.2.1 bt146.2.2.2.1 bt146.2.2.2.2.1 bt146.2.2.2.2.2.1 bt146.2.2.2.2.2.2.1 bt146.2.2.2.2.2.2.2) else ((arrearslaw03_same.f bt156.1 bt156.2.1 bt160.1 bt160.2.1 bt160.2.2.1 bt160.2.2.2.1 bt160.2.2.2.2.1 bt160.2.2.2.2.2.1 bt160.2.2.2.2.2.2.1 bt160.2.2.2.2.2.2.2.1).bind fun t196 => (if t196 = true then ((api_Code.f (some (bt170.2.2.getD 0))).bind fun t197 => (arrearslaw03_WideReckons.j0 k a0 a2 a4 (t197 != 12) a0 a1 a2 a3 bt138.1 bt138.2.1 bt138.2.2.1 bt138.2.2.2.1 bt138.2.2.2.2.1 bt138.2.2.2.2.2.1 bt138.2.2.2.2.2.2.1 bt138.2.2.2.2.2.2.2 bt146.1 bt146.2.1 bt146.2.2.1 bt146.2.2.2.1 bt146.2.2.2.2.1 bt146.2.2.2.2.2.1 bt146.2.2.2.2.2.2.1 bt146.2.2.2.2.2.2.2)) else (arrearslaw03_WideReckons.j0 k a0 a2 a4 true a0 a1 a2 a3 bt138.1 bt138.2.1 bt138.2.2.1 bt138.2.2.2.1 bt138.2.2.2.2.1 bt138.2.2.2.2.2.1 bt138.2.2.2.2.2.2.1 bt138.2.2.2.2.2.2.2 bt146.1 bt146.2.1 bt146.2.2.1 bt146.2.2.2.1 bt146.2.2.2.2.1 bt146.2.2.2.2.2.1 bt146.2.2.2.2.2.2.1 bt146.2.2.2.2.2.2.2)))))) else (if (false != bt160.2.2.2.2.2.2.2.2) = true then (arrearslaw03_WideReckons.j0 k a0 a2 a4 true a0 a1 a2 a3 bt138.1 bt138.2.1 bt138.2.2.1 bt138.2.2.2.1 bt138.2.2.2.2.1 bt138.2.2.2.2.2.1 bt138.2.2.2.2.2.2.1 bt138.2.2.2.2.2.2.2 bt146.1 bt146.2.1 bt146.2.2.1 bt146.2.2.2.1 bt146.2.2.2.2.1 bt146.2.2.2.2.2.1 bt146.2.2.2.2.2.2.1 bt146.2.2.2.2.2.2.2) else (if bt170.2.2.isNone = true then (if (true != bt182.2.2.2.2.2.2.2.2) = true then (arrearslaw03_WideReckons.j0 k a0 a2 a4 true a0 a1 a2 a3 bt138.1 bt138.2.1 bt138.2.2.1 bt138.2.2.2.1 bt138.2.2.2.2.1 bt138.2.2.2.2.2.1 bt138.2.2.2.2.2.2.1 bt138.2.2.2.2.2.2.2 bt146.1 bt146.2.1 bt146.2.2.1 bt146.2.2.2.1 bt146.2.2.2.2.1 bt146.2.2.2.2.2.1 bt146.2.2.2.2.2.2.1 bt146.2.2.2.2.2.2.2) else ((arrearslaw03_same.f bt170.1 bt170.2.1 bt182.1 bt182.2.1 bt182.2.2.1 bt182.2.2.2.1 bt182.2.2.2.2.1 bt182.2.2.2.2.2.1 bt182.2.2.2.2.2.2.1 bt182.2.2.2.2.2.2.2.1).bind fun t199 => (if t199 = true then ((api_Code.f (some (bt156.2.2.getD 0))).bind fun t200 => (if t200 = 12 then (if (!(bt156.1 == 0) || (!(bt156.2.1 == 0))) = true then (arrearslaw03_WideReckons.j0 k a0 a2 a4 true a0 a1 a2 a3 bt138.1 bt138.2.1 bt138.2.2.1 bt138.2.2.2.1 bt138.2.2.2.2.1 bt138.2.2.2.2.2.1 bt138.2.2.2.2.2.2.1 bt138.2.2.2.2.2.2.2 bt146.1 bt146.2.1 bt146.2.2.1 bt146.2.2.2.1 bt146.2.2.2.2.1 bt146.2.2.2.2.2.1 bt146.2.2.2.2.2.2.1 bt146.2.2.2.2.2.2.2) else (arrearslaw03_WideReckons.j0 k a0 a2 a4 false a0 a1 a2 a3 bt138.1 bt138.2.1 bt138.2.2.1 bt138.2.2.2.1 bt138.2.2.2.2.1 bt138.2.2.2.2.2.1 bt138.2.2.2.2.2.2.1 bt138.2.2.2.2.2.2.2 bt146.1 bt146.2.1 bt146.2.2.1 bt146.2.2.2.1 bt146.2.2.2.2.1 bt146.2.2.2.2.2.1 bt146.2.2.2.2.2.2.1 bt146.2.2.2.2.2.2.2)) else (arrearslaw03_WideReckons.j0 k a0 a2 a4 true a0 a1 a2 a3 bt138.1 bt138.2.1 bt138.2.2.1 bt138.2.2.2.1 bt138.2.2.2.2.1 bt138.2.2.2.2.2.1 bt138.2.2.2.2.2.2.1 bt138.2.2.2.2.2.2.2 bt146.1 bt146.2.1 bt146.2.2.1 bt146.2.2.2.1 bt146.2.2.2.2.1 bt146.2.2.2.2.2.1 bt146.2.2.2.2.2.2.1 bt146.2.2.2.2.2.2.2))) else (arrearslaw03_WideReckons.j0 k a0 a2 a4 true a0 a1 a2 a3 bt138.1 bt138.2.1 bt138.2.2.1 bt138.2.2.2.1 bt138.2.2.2.2.1 bt138.2.2.2.2.2.1 bt138.2.2.2.2.2.2.1 bt138.2.2.2.2.2.2.2 bt146.1 bt146.2.1 bt146.2.2.1 bt146.2.2.2.1 bt146.2.2.2.2.1 bt146.2.2.2.2.2.1 bt146.2.2.2.2.2.2.1 bt146.2.2.2.2.2.2.2)))) else (if (false != bt182.2.2.2.2.2.2.2.2) = true then (arrearslaw03_WideReckons.j0 k a0 a2 a4 true a0 a1 a2 a3 bt138.1 bt138.2.1 bt138.2.2.1 bt138.2.2.2.1 bt138.2.2.2.2.1 bt138.2.2.2.2.2.1 bt138.2.2.2.2.2.2.1 bt138.2.2.2.2.2.2.2 bt146.1 bt146.2.1 bt146.2.2.1 bt146.2.2.2.1 bt146.2.2.2.2.1 bt146.2.2.2.2.2.1 bt146.2.2.2.2.2.2.1 bt146.2.2.2.2.2.2.2) else ((api_Code.f (some (bt156.2.2.getD 0))).bind fun t201 => (if t201 = 12 then (if (!(bt156.1 == 0) || (!(bt156.2.1 == 0))) = true then (arrearslaw03_WideReckons.j0 k a0 a2 a4 true a0 a1 a2 a3 bt138.1 bt138.2.1 bt138.2.2.1 bt138.2.2.2.1 bt138.2.2.2.2.1 bt138.2.2.2.2.2.1 bt138.2.2.2.2.2.2.1 bt138.2.2.2.2.2.2.2 bt146.1 bt146.2.1 bt146.2.2.1 bt146.2.2.2.1 bt146.2.2.2.2.1 bt146.2.2.2.2.2.1 bt146.2.2.2.2.2.2.1 bt146.2.2.2.2.2.2.2) else ((api_Code.f (some (bt170.2.2.getD 0))).bind fun t202 => (arrearslaw03_WideReckons.j0 k a0 a2 a4 (t202 != 12) a0 a1 a2 a3 bt138.1 bt138.2.1 bt138.2.2.1 bt138.2.2.2.1 bt138.2.2.2.2.1 bt138.2.2.2.2.2.1 bt138.2.2.2.2.2.2.1 bt138.2.2.2.2.2.2.2 bt146.1 bt146.2.1 bt146.2.2.1 bt146.2.2.2.1 bt146.2.2.2.2.1 bt146.2.2.2.2.2.1 bt146.2.2.2.2.2.2.1 bt146.2.2.2.2.2.2.2))) else (arrearslaw03_WideReckons.j0 k a0 a2 a4 true a0 a1 a2 a3 bt138.1 bt138.2.1 bt138.2.2.1 bt138.2.2.2.1 bt138.2.2.2.2.1 bt138.2.2.2.2.2.1 bt138.2.2.2.2.2.2.1 bt138.2.2.2.2.2.2.2 bt146.1 bt146.2.1 bt146.2.2.1 bt146.2.2.2.1 bt146.2.2.2.2.1 bt146.2.2.2.2.2.1 bt146.2.2.2.2.2.2.1 bt146.2.2.2.2.2.2.2)))))))))))))) else (some false))) = some r := h
 clear h
 replace H := Option.bind_eq_some_iff.mp H
 obtain ⟨t135, A60, H⟩ := H
 (try dsimp only at H)
 have A6 := Aside0.mk A60
 clear A60
 by_cases c7 : t135 = true
 ·
  subst c7
  rw [if_pos rfl] at H
  have H1 := H
  clear H
  have H := H1
  clear H1
  replace H := Option.bind_eq_some_iff.mp H
  obtain ⟨⟨t138, t139, t140, t141, t142, t143, t144, t145⟩, A80, H⟩ := H
  (try dsimp only at H)
  have A8 := Aside0.mk A80
  clear A80
  replace H := Option.bind_eq_some_iff.mp H
  obtain ⟨⟨t146, t147, t148, t149, t150, t151, t152, t153⟩, A90, H⟩ := H
  (try dsimp only at H)
  have A9 := Aside0.mk A90
  clear A90
  replace H := Option.bind_eq_some_iff.mp H
  obtain ⟨⟨t156, t157, t158⟩, A100, H⟩ := H
  (try dsimp only at H)
  have A10 := Aside0.mk A100
  clear A100
  replace H := Option.bind_eq_some_iff.mp H
  obtain ⟨⟨t160, t161, t162, t163, t164, t165, t166, t167, t168⟩, A110, H⟩ := H
  (try dsimp only at H)
  have A11 := Aside0.mk A110
  clear A110
  replace H := Option.bind_eq_some_iff.mp H
  obtain ⟨⟨t170, t171, t172⟩, A120, H⟩ := H
  (try dsimp only at H)
  have A12 := Aside0.mk A120
  clear A120
  replace H := Option.bind_eq_some_iff.mp H
  obtain ⟨⟨t174, t175, t176, t177, t178, t179, t180, t181⟩, A130, H⟩ := H
  (try dsimp only at H)
  have A13 := Aside0.mk A130
  clear A130
  replace H := Option.bind_eq_some_iff.mp H
  obtain ⟨⟨t182, t183, t184, t185, t186, t187, t188, t189, t190⟩, A140, H⟩ := H
  (try dsimp only at H)
  have A14 := Aside0.mk A140
  clear A140
  have HC15 := Aside0.mk H
  clear H
  go_enter Tryd.func6, Tryd.ntmps6
  try go_wp2_with (first | ((with_reducible refine gate_callee (f := 8) rfl ?_); refine goesL_ (some 28) rfl rfl Tryd.func8 (by kernel_rfl) rfl #[] rfl (by (try simp only [List.map_toArray, List.map_cons, List.map_nil]); first | done | rfl | (simp only [List.length_drop, List.length_take]; rfl)) ?_; (with_reducible refine (arrearslaw03_awake.calls k  true _ A6.out).mono ?_); rintro e w16 ⟨rfl, hb⟩; refine ⟨_, rfl, ?_⟩; have n0_ := Aside0.mk (below_step (wrs HB.out) hb); clear HB; have HB := n0_; clear n0_; (try clear hb); (try clear hb2); (try clear hk); (try clear hi)) | ((with_reducible refine gate_dst (N := 11) rfl ?_); refine box_event ?hg (N := 11) ?hd (cs := #[.int .u64 0, .int .u64 0]) (t := 36) ?hr ?_; (case hd => rfl); (case hg => rfl); (case hr => first | (go_simp; done) | (go_simp; rfl)); intro gb136 hg w17 hbox hb; have n0_ := Aside0.mk (below_step (wrs HB.out) hb); have n1_ := Aside0.mk (hbox); have n2_ := Aside0.mk ((by rw [hg]; exact (below_size (wrs HB.out)) : w.heap.size ≤ gb136)); have n3_ := Aside0.mk ((by rw [hg]; exact (below_size (wrs HB.out)) : w.heap.size ≤ gb136)); clear HB; have HB := n0_; have BK136 := n1_; have GW136 := n2_; have GE136 := n3_; clear n0_ n1_ n2_ n3_; clear hb hbox hg) | ((with_reducible refine gate_dst (N := 12) rfl ?_); refine box_event ?hg (N := 12) ?hd (cs := #[.int .u64 0, .int .u64 0]) (t := 36) ?hr ?_; (case hd => rfl); (case hg => rfl); (case hr => first | (go_simp; done) | (go_simp; rfl)); intro gb137 hg w18 hbox hb; have n0_ := Aside0.mk (wrq BK136.out hb); have n1_ := Aside0.mk (below_step (wrs HB.out) hb); have n2_ := Aside0.mk (hbox); have n3_ := Aside0.mk ((by rw [hg]; exact (below_size (wrs HB.out)) : w.heap.size ≤ gb137)); have n4_ := Aside0.mk ((by rw [hg]; exact (below_size (wrs HB.out)) : w.heap.size ≤ gb137)); have n5_ := Aside0.mk ((by rw [hg]; exact Nat.ne_of_lt (blk_lt (g := gb136) (o := .cells #[.int .u64 0, .int .u64 0] 36 (0, 0)) (wrx BK136.out)) : gb136 ≠ gb137)); have n6_ := Aside0.mk ((by rw [hg]; exact Nat.ne_of_gt (blk_lt (g := gb136) (o := .cells #[.int .u64 0, .int .u64 0] 36 (0, 0)) (wrx BK136.out)) : gb137 ≠ gb136)); clear BK136; clear HB; have BK136 := n0_; have HB := n1_; have BK137 := n2_; have GW137 := n3_; have GE137 := n4_; have NB136_137 := n5_; have NB137_136 := n6_; clear n0_ n1_ n2_ n3_ n4_ n5_ n6_; clear hb hbox hg; have hnb19 := NB136_137.out; have hnc19 := NB137_136.out; have hcz20_0 : w18.cell? ⟨gb136, 0, none⟩ = some (.int .u64 0) := (blk_cell BK136.out 0).trans rfl; have hcz20_1 : w18.cell? ⟨gb136, 1, none⟩ = some (.int .u64 0) := (blk_cell BK136.out 1).trans rfl; have hfz20_0 := blk_frozen BK136.out 0; have hfz20_1 := blk_frozen BK136.out 1; have hcz21_0 : w18.cell? ⟨gb137, 0, none⟩ = some (.int .u64 0) := (blk_cell BK137.out 0).trans rfl; have hcz21_1 : w18.cell? ⟨gb137, 1, none⟩ = some (.int .u64 0) := (blk_cell BK137.out 1).trans rfl; have hfz21_0 := blk_frozen BK137.out 0; have hfz21_1 := blk_frozen BK137.out 1) | ((with_reducible refine gate_callee (f := 18) rfl ?_); refine goesL_ (some 38) rfl rfl Tryd.func18 (by kernel_rfl) rfl #[.int .u64 a0, .int .u64 a1] rfl (by (try simp only [List.map_toArray, List.map_cons, List.map_nil]); first | done | rfl | (simp only [List.length_drop, List.length_take]; rfl)) ?_; (with_reducible refine (arrearsref03_Of.calls a0 a1 t138 t139 t140 t141 t142 t143 t144 t145 _ A8.out).mono ?_); rintro e w22 ⟨rfl, hb⟩; refine ⟨_, rfl, ?_⟩; have n0_ := Aside0.mk (blk_below (g := gb136) (o := .cells #[.int .u64 a0, .int .u64 a1] 36 (0, 0)) (by (repeat (first | (with_reducible first | refine blk_drewN ?_ _ | refine blk_drew ?_ | refine blk_alloc ?_ _) | refine blk_far ?_ NB136_137.out _)); refine blk_put (cs := #[.int .u64 a0, .int .u64 0]) ?_ 1 _ rfl; (with_reducible repeat (first | refine blk_drewN ?_ _ | refine blk_drew ?_ | refine blk_alloc ?_ _)); refine blk_put (cs := #[.int .u64 0, .int .u64 0]) ?_ 0 _ rfl; (with_reducible repeat (first | refine blk_drewN ?_ _ | refine blk_drew ?_ | refine blk_alloc ?_ _)); exact BK136.out) hb); have n1_ := Aside0.mk (blk_below (g := gb137) (o := .cells #[.int .u64 a2, .int .u64 a3] 36 (0, 0)) (by (with_reducible repeat (first | refine blk_drewN ?_ _ | refine blk_drew ?_ | refine blk_alloc ?_ _)); refine blk_put (cs := #[.int .u64 a2, .int .u64 0]) ?_ 1 _ rfl; (with_reducible repeat (first | refine blk_drewN ?_ _ | refine blk_drew ?_ | refine blk_alloc ?_ _)); refine blk_put (cs := #[.int .u64 0, .int .u64 0]) ?_ 0 _ rfl; (repeat (first | (with_reducible first | refine blk_drewN ?_ _ | refine blk_drew ?_ | refine blk_alloc ?_ _) | refine blk_far ?_ NB137_136.out _)); exact BK137.out) hb); have n2_ := Aside0.mk (below_step (wrs HB.out) hb); clear BK136; clear BK137; clear HB; have BK136 := n0_; have BK137 := n1_; have HB := n2_; clear n0_ n1_ n2_; (try clear hb); (try clear hb2); (try clear hk); (try clear hi)) | ((with_reducible refine gate_callee (f := 18) rfl ?_); refine goesL_ (some 41) rfl rfl Tryd.func18 (by kernel_rfl) rfl #[.int .u64 a2, .int .u64 a3] rfl (by (try simp only [List.map_toArray, List.map_cons, List.map_nil]); first | done | rfl | (simp only [List.length_drop, List.length_take]; rfl)) ?_; (with_reducible refine (arrearsref03_Of.calls a2 a3 t146 t147 t148 t149 t150 t151 t152 t153 _ A9.out).mono ?_); rintro e w23 ⟨rfl, hb⟩; refine ⟨_, rfl, ?_⟩; have n0_ := Aside0.mk (wrq BK136.out hb); have n1_ := Aside0.mk (wrq BK137.out hb); have n2_ := Aside0.mk (below_step (wrs HB.out) hb); clear BK136; clear BK137; clear HB; have BK136 := n0_; have BK137 := n1_; have HB := n2_; clear n0_ n1_ n2_; (try clear hb); (try clear hb2); (try clear hk); (try clear hi)) | ((with_reducible refine gate_dst (N := 13) rfl ?_); refine box_event ?hg (N := 13) ?hd (cs := #[.int .u32 0, .int .u32 0, .int .u32 0, .int .u32 0, .int .u32 0, .int .u32 0, .int .u32 0, .int .u32 0]) (t := 46) ?hr ?_; (case hd => rfl); (case hg => rfl); (case hr => first | (go_simp; done) | (go_simp; rfl)); intro gb154 hg w24 hbox hb; have n0_ := Aside0.mk (wrq BK136.out hb); have n1_ := Aside0.mk (wrq BK137.out hb); have n2_ := Aside0.mk (below_step (wrs HB.out) hb); have n3_ := Aside0.mk (hbox); have n4_ := Aside0.mk ((by rw [hg]; exact (below_size (wrs HB.out)) : w.heap.size ≤ gb154)); have n5_ := Aside0.mk ((by rw [hg]; exact (below_size (wrs HB.out)) : w.heap.size ≤ gb154)); have n6_ := Aside0.mk ((by rw [hg]; exact Nat.ne_of_lt (blk_lt (g := gb136) (o := .cells #[.int .u64 a0, .int .u64 a1] 36 (0, 0)) (wrx BK136.out)) : gb136 ≠ gb154)); have n7_ := Aside0.mk ((by rw [hg]; exact Nat.ne_of_gt (blk_lt (g := gb136) (o := .cells #[.int .u64 a0, .int .u64 a1] 36 (0, 0)) (wrx BK136.out)) : gb154 ≠ gb136)); have n8_ := Aside0.mk ((by rw [hg]; exact Nat.ne_of_lt (blk_lt (g := gb137) (o := .cells #[.int .u64 a2, .int .u64 a3] 36 (0, 0)) (wrx BK137.out)) : gb137 ≠ gb154)); have n9_ := Aside0.mk ((by rw [hg]; exact Nat.ne_of_gt (blk_lt (g := gb137) (o := .cells #[.int .u64 a2, .int .u64 a3] 36 (0, 0)) (wrx BK137.out)) : gb154 ≠ gb137)); clear BK136; clear BK137; clear HB; have BK136 := n0_; have BK137 := n1_; have HB := n2_; have BK154 := n3_; have GW154 := n4_; have GE154 := n5_; have NB136_154 := n6_; have NB154_136 := n7_; have NB137_154 := n8_; have NB154_137 := n9_; clear n0_ n1_ n2_ n3_ n4_ n5_ n6_ n7_ n8_ n9_; clear hb hbox hg) | ((with_reducible refine gate_dst (N := 14) rfl ?_); refine box_event ?hg (N := 14) ?hd (cs := #[.int .u32 0, .int .u32 0, .int .u32 0, .int .u32 0, .int .u32 0, .int .u32 0, .int .u32 0, .int .u32 0]) (t := 46) ?hr ?_; (case hd => rfl); (case hg => rfl); (case hr => first | (go_simp; done) | (go_simp; rfl)); intro gb155 hg w25 hbox hb; have n0_ := Aside0.mk (wrq BK136.out hb); have n1_ := Aside0.mk (wrq BK137.out hb); have n2_ := Aside0.mk (wrq BK154.out hb); have n3_ := Aside0.mk (below_step (wrs HB.out) hb); have n4_ := Aside0.mk (hbox); have n5_ := Aside0.mk ((by rw [hg]; exact (below_size (wrs HB.out)) : w.heap.size ≤ gb155)); have n6_ := Aside0.mk ((by rw [hg]; exact (below_size (wrs HB.out)) : w.heap.size ≤ gb155)); have n7_ := Aside0.mk ((by rw [hg]; exact Nat.ne_of_lt (blk_lt (g := gb136) (o := .cells #[.int .u64 a0, .int .u64 a1] 36 (0, 0)) (wrx BK136.out)) : gb136 ≠ gb155)); have n8_ := Aside0.mk ((by rw [hg]; exact Nat.ne_of_gt (blk_lt (g := gb136) (o := .cells #[.int .u64 a0, .int .u64 a1] 36 (0, 0)) (wrx BK136.out)) : gb155 ≠ gb136)); have n9_ := Aside0.mk ((by rw [hg]; exact Nat.ne_of_lt (blk_lt (g := gb137) (o := .cells #[.int .u64 a2, .int .u64 a3] 36 (0, 0)) (wrx BK137.out)) : gb137 ≠ gb155)); have n10_ := Aside0.mk ((by rw [hg]; exact Nat.ne_of_gt (blk_lt (g := gb137) (o := .cells #[.int .u64 a2, .int .u64 a3] 36 (0, 0)) (wrx BK137.out)) : gb155 ≠ gb137)); have n11_ := Aside0.mk ((by rw [hg]; exact Nat.ne_of_lt (blk_lt (g := gb154) (o := .cells #[.int .u32 0, .int .u32 0, .int .u32 0, .int .u32 0, .int .u32 0, .int .u32 0, .int .u32 0, .int .u32 0] 46 (0, 0)) (wrx BK154.out)) : gb154 ≠ gb155)); have n12_ := Aside0.mk ((by rw [hg]; exact Nat.ne_of_gt (blk_lt (g := gb154) (o := .cells #[.int .u32 0, .int .u32 0, .int .u32 0, .int .u32 0, .int .u32 0, .int .u32 0, .int .u32 0, .int .u32 0] 46 (0, 0)) (wrx BK154.out)) : gb155 ≠ gb154)); clear BK136; clear BK137; clear BK154; clear HB; have BK136 := n0_; have BK137 := n1_; have BK154 := n2_; have HB := n3_; have BK155 := n4_; have GW155 := n5_; have GE155 := n6_; have NB136_155 := n7_; have NB155_136 := n8_; have NB137_155 := n9_; have NB155_137 := n10_; have NB154_155 := n11_; have NB155_154 := n12_; clear n0_ n1_ n2_ n3_ n4_ n5_ n6_ n7_ n8_ n9_ n10_ n11_ n12_; clear hb hbox hg; have hnb26 := NB154_136.out; have hnc26 := NB136_154.out; have hnb27 := NB154_137.out; have hnc27 := NB137_154.out; have hnb28 := NB154_155.out; have hnc28 := NB155_154.out; have hcz29_0 : w25.cell? ⟨gb154, 0, none⟩ = some (.int .u32 0) := (blk_cell BK154.out 0).trans rfl; have hcz29_1 : w25.cell? ⟨gb154, 1, none⟩ = some (.int .u32 0) := (blk_cell BK154.out 1).trans rfl; have hcz29_2 : w25.cell? ⟨gb154, 2, none⟩ = some (.int .u32 0) := (blk_cell BK154.out 2).trans rfl; have hcz29_3 : w25.cell? ⟨gb154, 3, none⟩ = some (.int .u32 0) := (blk_cell BK154.out 3).trans rfl; have hcz29_4 : w25.cell? ⟨gb154, 4, none⟩ = some (.int .u32 0) := (blk_cell BK154.out 4).trans rfl; have hcz29_5 : w25.cell? ⟨gb154, 5, none⟩ = some (.int .u32 0) := (blk_cell BK154.out 5).trans rfl; have hcz29_6 : w25.cell? ⟨gb154, 6, none⟩ = some (.int .u32 0) := (blk_cell BK154.out 6).trans rfl; have hcz29_7 : w25.cell? ⟨gb154, 7, none⟩ = some (.int .u32 0) := (blk_cell BK154.out 7).trans rfl; have hfz29_0 := blk_frozen BK154.out 0; have hfz29_1 := blk_frozen BK154.out 1; have hfz29_2 := blk_frozen BK154.out 2; have hfz29_3 := blk_frozen BK154.out 3; have hfz29_4 := blk_frozen BK154.out 4; have hfz29_5 := blk_frozen BK154.out 5; have hfz29_6 := blk_frozen BK154.out 6; have hfz29_7 := blk_frozen BK154.out 7; have hnb30 := NB155_136.out; have hnc30 := NB136_155.out; have hnb31 := NB155_137.out; have hnc31 := NB137_155.out; have hcz32_0 : w25.cell? ⟨gb155, 0, none⟩ = some (.int .u32 0) := (blk_cell BK155.out 0).trans rfl; have hcz32_1 : w25.cell? ⟨gb155, 1, none⟩ = some (.int .u32 0) := (blk_cell BK155.out 1).trans rfl; have hcz32_2 : w25.cell? ⟨gb155, 2, none⟩ = some (.int .u32 0) := (blk_cell BK155.out 2).trans rfl; have hcz32_3 : w25.cell? ⟨gb155, 3, none⟩ = some (.int .u32 0) := (blk_cell BK155.out 3).trans rfl; have hcz32_4 : w25.cell? ⟨gb155, 4, none⟩ = some (.int .u32 0) := (blk_cell BK155.out 4).trans rfl; have hcz32_5 : w25.cell? ⟨gb155, 5, none⟩ = some (.int .u32 0) := (blk_cell BK155.out 5).trans rfl; have hcz32_6 : w25.cell? ⟨gb155, 6, none⟩ = some (.int .u32 0) := (blk_cell BK155.out 6).trans rfl; have hcz32_7 : w25.cell? ⟨gb155, 7, none⟩ = some (.int .u32 0) := (blk_cell BK155.out 7).trans rfl; have hfz32_0 := blk_frozen BK155.out 0; have hfz32_1 := blk_frozen BK155.out 1; have hfz32_2 := blk_frozen BK155.out 2; have hfz32_3 := blk_frozen BK155.out 3; have hfz32_4 := blk_frozen BK155.out 4; have hfz32_5 := blk_frozen BK155.out 5; have hfz32_6 := blk_frozen BK155.out 6; have hfz32_7 := blk_frozen BK155.out 7; have hcz33_0 : w25.cell? ⟨gb136, 0, none⟩ = some (.int .u64 a0) := (blk_cell BK136.out 0).trans rfl; have hcz33_1 : w25.cell? ⟨gb136, 1, none⟩ = some (.int .u64 a1) := (blk_cell BK136.out 1).trans rfl; have hfz33_0 := blk_frozen BK136.out 0; have hfz33_1 := blk_frozen BK136.out 1; have hcz34_0 : w25.cell? ⟨gb137, 0, none⟩ = some (.int .u64 a2) := (blk_cell BK137.out 0).trans rfl; have hcz34_1 : w25.cell? ⟨gb137, 1, none⟩ = some (.int .u64 a3) := (blk_cell BK137.out 1).trans rfl; have hfz34_0 := blk_frozen BK137.out 0; have hfz34_1 := blk_frozen BK137.out 1) | ((with_reducible refine gate_callee (f := 15) rfl ?_); refine goesL_ (some 45) rfl rfl Tryd.func15 (by kernel_rfl) rfl #[.agg #[.int .u64 a0, .int .u64 a1], .agg #[.int .u64 a2, .int .u64 a3]] rfl (by (try simp only [List.map_toArray, List.map_cons, List.map_nil]); first | done | rfl | (simp only [List.length_drop, List.length_take]; rfl)) ?_; (with_reducible refine (wide_Wide_Plus.calls a0 a1 a2 a3 t156 t157 t158 _ A10.out).mono ?_); rintro e w35 ⟨rfl, hb⟩; refine ⟨_, rfl, ?_⟩; have n0_ := Aside0.mk (blk_below (wrf BK136.out) hb); have n1_ := Aside0.mk (blk_below (wrf BK137.out) hb); have n2_ := Aside0.mk (blk_below (g := gb154) (o := .cells #[.int .u32 t138, .int .u32 t139, .int .u32 t140, .int .u32 t141, .int .u32 t142, .int .u32 t143, .int .u32 t144, .int .u32 t145] 46 (0, 0)) (by (repeat (first | (with_reducible first | refine blk_drewN ?_ _ | refine blk_drew ?_ | refine blk_alloc ?_ _) | refine blk_far ?_ NB154_155.out _)); refine blk_put (cs := #[.int .u32 t138, .int .u32 t139, .int .u32 t140, .int .u32 t141, .int .u32 t142, .int .u32 t143, .int .u32 t144, .int .u32 0]) ?_ 7 _ rfl; (with_reducible repeat (first | refine blk_drewN ?_ _ | refine blk_drew ?_ | refine blk_alloc ?_ _)); refine blk_put (cs := #[.int .u32 t138, .int .u32 t139, .int .u32 t140, .int .u32 t141, .int .u32 t142, .int .u32 t143, .int .u32 0, .int .u32 0]) ?_ 6 _ rfl; (with_reducible repeat (first | refine blk_drewN ?_ _ | refine blk_drew ?_ | refine blk_alloc ?_ _)); refine blk_put (cs := #[.int .u32 t138, .int .u32 t139, .int .u32 t140, .int .u32 t141, .int .u32 t142, .int .u32 0, .int .u32 0, .int .u32 0]) ?_ 5 _ rfl; (with_reducible repeat (first | refine blk_drewN ?_ _ | refine blk_drew ?_ | refine blk_alloc ?_ _)); refine blk_put (cs := #[.int .u32 t138, .int .u32 t139, .int .u32 t140, .int .u32 t141, .int .u32 0, .int .u32 0, .int .u32 0, .int .u32 0]) ?_ 4 _ rfl; (with_reducible repeat (first | refine blk_drewN ?_ _ | refine blk_drew ?_ | refine blk_alloc ?_ _)); refine blk_put (cs := #[.int .u32 t138, .int .u32 t139, .int .u32 t140, .int .u32 0, .int .u32 0, .int .u32 0, .int .u32 0, .int .u32 0]) ?_ 3 _ rfl; (with_reducible repeat (first | refine blk_drewN ?_ _ | refine blk_drew ?_ | refine blk_alloc ?_ _)); refine blk_put (cs := #[.int .u32 t138, .int .u32 t139, .int .u32 0, .int .u32 0, .int .u32 0, .int .u32 0, .int .u32 0, .int .u32 0]) ?_ 2 _ rfl; (with_reducible repeat (first | refine blk_drewN ?_ _ | refine blk_drew ?_ | refine blk_alloc ?_ _)); refine blk_put (cs := #[.int .u32 t138, .int .u32 0, .int .u32 0, .int .u32 0, .int .u32 0, .int .u32 0, .int .u32 0, .int .u32 0]) ?_ 1 _ rfl; (with_reducible repeat (first | refine blk_drewN ?_ _ | refine blk_drew ?_ | refine blk_alloc ?_ _)); refine blk_put (cs := #[.int .u32 0, .int .u32 0, .int .u32 0, .int .u32 0, .int .u32 0, .int .u32 0, .int .u32 0, .int .u32 0]) ?_ 0 _ rfl; (with_reducible repeat (first | refine blk_drewN ?_ _ | refine blk_drew ?_ | refine blk_alloc ?_ _)); exact BK154.out) hb); have n3_ := Aside0.mk (blk_below (g := gb155) (o := .cells #[.int .u32 t146, .int .u32 t147, .int .u32 t148, .int .u32 t149, .int .u32 t150, .int .u32 t151, .int .u32 t152, .int .u32 t153] 46 (0, 0)) (by (with_reducible repeat (first | refine blk_drewN ?_ _ | refine blk_drew ?_ | refine blk_alloc ?_ _)); refine blk_put (cs := #[.int .u32 t146, .int .u32 t147, .int .u32 t148, .int .u32 t149, .int .u32 t150, .int .u32 t151, .int .u32 t152, .int .u32 0]) ?_ 7 _ rfl; (with_reducible repeat (first | refine blk_drewN ?_ _ | refine blk_drew ?_ | refine blk_alloc ?_ _)); refine blk_put (cs := #[.int .u32 t146, .int .u32 t147, .int .u32 t148, .int .u32 t149, .int .u32 t150, .int .u32 t151, .int .u32 0, .int .u32 0]) ?_ 6 _ rfl; (with_reducible repeat (first | refine blk_drewN ?_ _ | refine blk_drew ?_ | refine blk_alloc ?_ _)); refine blk_put (cs := #[.int .u32 t146, .int .u32 t147, .int .u32 t148, .int .u32 t149, .int .u32 t150, .int .u32 0, .int .u32 0, .int .u32 0]) ?_ 5 _ rfl; (with_reducible repeat (first | refine blk_drewN ?_ _ | refine blk_drew ?_ | refine blk_alloc ?_ _)); refine blk_put (cs := #[.int .u32 t146, .int .u32 t147, .int .u32 t148, .int .u32 t149, .int .u32 0, .int .u32 0, .int .u32 0, .int .u32 0]) ?_ 4 _ rfl; (with_reducible repeat (first | refine blk_drewN ?_ _ | refine blk_drew ?_ | refine blk_alloc ?_ _)); refine blk_put (cs := #[.int .u32 t146, .int .u32 t147, .int .u32 t148, .int .u32 0, .int .u32 0, .int .u32 0, .int .u32 0, .int .u32 0]) ?_ 3 _ rfl; (with_reducible repeat (first | refine blk_drewN ?_ _ | refine blk_drew ?_ | refine blk_alloc ?_ _)); refine blk_put (cs := #[.int .u32 t146, .int .u32 t147, .int .u32 0, .int .u32 0, .int .u32 0, .int .u32 0, .int .u32 0, .int .u32 0]) ?_ 2 _ rfl; (with_reducible repeat (first | refine blk_drewN ?_ _ | refine blk_drew ?_ | refine blk_alloc ?_ _)); refine blk_put (cs := #[.int .u32 t146, .int .u32 0, .int .u32 0, .int .u32 0, .int .u32 0, .int .u32 0, .int .u32 0, .int .u32 0]) ?_ 1 _ rfl; (with_reducible repeat (first | refine blk_drewN ?_ _ | refine blk_drew ?_ | refine blk_alloc ?_ _)); refine blk_put (cs := #[.int .u32 0, .int .u32 0, .int .u32 0, .int .u32 0, .int .u32 0, .int .u32 0, .int .u32 0, .int .u32 0]) ?_ 0 _ rfl; (repeat (first | (with_reducible first | refine blk_drewN ?_ _ | refine blk_drew ?_ | refine blk_alloc ?_ _) | refine blk_far ?_ NB155_154.out _)); exact BK155.out) hb); have n4_ := Aside0.mk (below_step (wrs HB.out) hb); clear BK136; clear BK137; clear BK154; clear BK155; clear HB; have BK136 := n0_; have BK137 := n1_; have BK154 := n2_; have BK155 := n3_; have HB := n4_; clear n0_ n1_ n2_ n3_ n4_; (try clear hb); (try clear hb2); (try clear hk); (try clear hi); (try simp only [errW_none, errW_some])) | ((with_reducible refine gate_dst (N := 15) rfl ?_); refine box_event ?hg (N := 15) ?hd (cs := #[.int .u64 0, .int .u64 0]) (t := 36) ?hr ?_; (case hd => rfl); (case hg => rfl); (case hr => first | (go_simp; done) | (go_simp; rfl)); intro gb159 hg w36 hbox hb; have n0_ := Aside0.mk (wrq BK136.out hb); have n1_ := Aside0.mk (wrq BK137.out hb); have n2_ := Aside0.mk (wrq BK154.out hb); have n3_ := Aside0.mk (wrq BK155.out hb); have n4_ := Aside0.mk (below_step (wrs HB.out) hb); have n5_ := Aside0.mk (hbox); have n6_ := Aside0.mk ((by rw [hg]; exact (below_size (wrs HB.out)) : w.heap.size ≤ gb159)); have n7_ := Aside0.mk ((by rw [hg]; exact (below_size (wrs HB.out)) : w.heap.size ≤ gb159)); have n8_ := Aside0.mk ((by rw [hg]; exact Nat.ne_of_lt (blk_lt (g := gb136) (o := .cells #[.int .u64 a0, .int .u64 a1] 36 (0, 0)) (wrx BK136.out)) : gb136 ≠ gb159)); have n9_ := Aside0.mk ((by rw [hg]; exact Nat.ne_of_gt (blk_lt (g := gb136) (o := .cells #[.int .u64 a0, .int .u64 a1] 36 (0, 0)) (wrx BK136.out)) : gb159 ≠ gb136)); have n10_ := Aside0.mk ((by rw [hg]; exact Nat.ne_of_lt (blk_lt (g := gb137) (o := .cells #[.int .u64 a2, .int .u64 a3] 36 (0, 0)) (wrx BK137.out)) : gb137 ≠ gb159)); have n11_ := Aside0.mk ((by rw [hg]; exact Nat.ne_of_gt (blk_lt (g := gb137) (o := .cells #[.int .u64 a2, .int .u64 a3] 36 (0, 0)) (wrx BK137.out)) : gb159 ≠ gb137)); have n12_ := Aside0.mk ((by rw [hg]; exact Nat.ne_of_lt (blk_lt (g := gb154) (o := .cells #[.int .u32 t138, .int .u32 t139, .int .u32 t140, .int .u32 t141, .int .u32 t142, .int .u32 t143, .int .u32 t144, .int .u32 t145] 46 (0, 0)) (wrx BK154.out)) : gb154 ≠ gb159)); have n13_ := Aside0.mk ((by rw [hg]; exact Nat.ne_of_gt (blk_lt (g := gb154) (o := .cells #[.int .u32 t138, .int .u32 t139, .int .u32 t140, .int .u32 t141, .int .u32 t142, .int .u32 t143, .int .u32 t144, .int .u32 t145] 46 (0, 0)) (wrx BK154.out)) : gb159 ≠ gb154)); have n14_ := Aside0.mk ((by rw [hg]; exact Nat.ne_of_lt (blk_lt (g := gb155) (o := .cells #[.int .u32 t146, .int .u32 t147, .int .u32 t148, .int .u32 t149, .int .u32 t150, .int .u32 t151, .int .u32 t152, .int .u32 t153] 46 (0, 0)) (wrx BK155.out)) : gb155 ≠ gb159)); have n15_ := Aside0.mk ((by rw [hg]; exact Nat.ne_of_gt (blk_lt (g := gb155) (o := .cells #[.int .u32 t146, .int .u32 t147, .int .u32 t148, .int .u32 t149, .int .u32 t150, .int .u32 t151, .int .u32 t152, .int .u32 t153] 46 (0, 0)) (wrx BK155.out)) : gb159 ≠ gb155)); clear BK136; clear BK137; clear BK154; clear BK155; clear HB; have BK136 := n0_; have BK137 := n1_; have BK154 := n2_; have BK155 := n3_; have HB := n4_; have BK159 := n5_; have GW159 := n6_; have GE159 := n7_; have NB136_159 := n8_; have NB159_136 := n9_; have NB137_159 := n10_; have NB159_137 := n11_; have NB154_159 := n12_; have NB159_154 := n13_; have NB155_159 := n14_; have NB159_155 := n15_; clear n0_ n1_ n2_ n3_ n4_ n5_ n6_ n7_ n8_ n9_ n10_ n11_ n12_ n13_ n14_ n15_; clear hb hbox hg; have hnb37 := NB159_136.out; have hnc37 := NB136_159.out; have hnb38 := NB159_137.out; have hnc38 := NB137_159.out; have hnb39 := NB159_154.out; have hnc39 := NB154_159.out; have hnb40 := NB159_155.out; have hnc40 := NB155_159.out; have hcz41_0 : w36.cell? ⟨gb159, 0, none⟩ = some (.int .u64 0) := (blk_cell BK159.out 0).trans rfl; have hcz41_1 : w36.cell? ⟨gb159, 1, none⟩ = some (.int .u64 0) := (blk_cell BK159.out 1).trans rfl; have hfz41_0 := blk_frozen BK159.out 0; have hfz41_1 := blk_frozen BK159.out 1; have hcz42_0 : w36.cell? ⟨gb154, 0, none⟩ = some (.int .u32 t138) := (blk_cell BK154.out 0).trans rfl; have hcz42_1 : w36.cell? ⟨gb154, 1, none⟩ = some (.int .u32 t139) := (blk_cell BK154.out 1).trans rfl; have hcz42_2 : w36.cell? ⟨gb154, 2, none⟩ = some (.int .u32 t140) := (blk_cell BK154.out 2).trans rfl; have hcz42_3 : w36.cell? ⟨gb154, 3, none⟩ = some (.int .u32 t141) := (blk_cell BK154.out 3).trans rfl; have hcz42_4 : w36.cell? ⟨gb154, 4, none⟩ = some (.int .u32 t142) := (blk_cell BK154.out 4).trans rfl; have hcz42_5 : w36.cell? ⟨gb154, 5, none⟩ = some (.int .u32 t143) := (blk_cell BK154.out 5).trans rfl; have hcz42_6 : w36.cell? ⟨gb154, 6, none⟩ = some (.int .u32 t144) := (blk_cell BK154.out 6).trans rfl; have hcz42_7 : w36.cell? ⟨gb154, 7, none⟩ = some (.int .u32 t145) := (blk_cell BK154.out 7).trans rfl; have hfz42_0 := blk_frozen BK154.out 0; have hfz42_1 := blk_frozen BK154.out 1; have hfz42_2 := blk_frozen BK154.out 2; have hfz42_3 := blk_frozen BK154.out 3; have hfz42_4 := blk_frozen BK154.out 4; have hfz42_5 := blk_frozen BK154.out 5; have hfz42_6 := blk_frozen BK154.out 6; have hfz42_7 := blk_frozen BK154.out 7; have hcz43_0 : w36.cell? ⟨gb155, 0, none⟩ = some (.int .u32 t146) := (blk_cell BK155.out 0).trans rfl; have hcz43_1 : w36.cell? ⟨gb155, 1, none⟩ = some (.int .u32 t147) := (blk_cell BK155.out 1).trans rfl; have hcz43_2 : w36.cell? ⟨gb155, 2, none⟩ = some (.int .u32 t148) := (blk_cell BK155.out 2).trans rfl; have hcz43_3 : w36.cell? ⟨gb155, 3, none⟩ = some (.int .u32 t149) := (blk_cell BK155.out 3).trans rfl; have hcz43_4 : w36.cell? ⟨gb155, 4, none⟩ = some (.int .u32 t150) := (blk_cell BK155.out 4).trans rfl; have hcz43_5 : w36.cell? ⟨gb155, 5, none⟩ = some (.int .u32 t151) := (blk_cell BK155.out 5).trans rfl; have hcz43_6 : w36.cell? ⟨gb155, 6, none⟩ = some (.int .u32 t152) := (blk_cell BK155.out 6).trans rfl; have hcz43_7 : w36.cell? ⟨gb155, 7, none⟩ = some (.int .u32 t153) := (blk_cell BK155.out 7).trans rfl; have hfz43_0 := blk_frozen BK155.out 0; have hfz43_1 := blk_frozen BK155.out 1; have hfz43_2 := blk_frozen BK155.out 2; have hfz43_3 := blk_frozen BK155.out 3; have hfz43_4 := blk_frozen BK155.out 4; have hfz43_5 := blk_frozen BK155.out 5; have hfz43_6 := blk_frozen BK155.out 6; have hfz43_7 := blk_frozen BK155.out 7) | ((with_reducible refine gate_callee (f := 19) rfl ?_); refine goesL_ (some 51) rfl rfl Tryd.func19 (by kernel_rfl) rfl #[.agg #[.int .u32 t138, .int .u32 t139, .int .u32 t140, .int .u32 t141, .int .u32 t142, .int .u32 t143, .int .u32 t144, .int .u32 t145], .agg #[.int .u32 t146, .int .u32 t147, .int .u32 t148, .int .u32 t149, .int .u32 t150, .int .u32 t151, .int .u32 t152, .int .u32 t153]] rfl (by (try simp only [List.map_toArray, List.map_cons, List.map_nil]); first | done | rfl | (simp only [List.length_drop, List.length_take]; rfl)) ?_; (with_reducible refine (arrearsref03_Add.calls t138 t139 t140 t141 t142 t143 t144 t145 t146 t147 t148 t149 t150 t151 t152 t153 t160 t161 t162 t163 t164 t165 t166 t167 t168 _ A11.out).mono ?_); rintro e w44 ⟨rfl, hb⟩; refine ⟨_, rfl, ?_⟩; have n0_ := Aside0.mk (blk_below (wrf BK136.out) hb); have n1_ := Aside0.mk (blk_below (wrf BK137.out) hb); have n2_ := Aside0.mk (blk_below (wrf BK154.out) hb); have n3_ := Aside0.mk (blk_below (wrf BK155.out) hb); have n4_ := Aside0.mk (blk_below (g := gb159) (o := .cells #[.int .u64 t156, .int .u64 t157] 36 (0, 0)) (by (with_reducible repeat (first | refine blk_drewN ?_ _ | refine blk_drew ?_ | refine blk_alloc ?_ _)); refine blk_put (cs := #[.int .u64 t156, .int .u64 0]) ?_ 1 _ rfl; (with_reducible repeat (first | refine blk_drewN ?_ _ | refine blk_drew ?_ | refine blk_alloc ?_ _)); refine blk_put (cs := #[.int .u64 0, .int .u64 0]) ?_ 0 _ rfl; (with_reducible repeat (first | refine blk_drewN ?_ _ | refine blk_drew ?_ | refine blk_alloc ?_ _)); exact BK159.out) hb); have n5_ := Aside0.mk (below_step (wrs HB.out) hb); clear BK136; clear BK137; clear BK154; clear BK155; clear BK159; clear HB; have BK136 := n0_; have BK137 := n1_; have BK154 := n2_; have BK155 := n3_; have BK159 := n4_; have HB := n5_; clear n0_ n1_ n2_ n3_ n4_ n5_; (try clear hb); (try clear hb2); (try clear hk); (try clear hi)) | ((with_reducible refine gate_dst (N := 17) rfl ?_); refine box_event ?hg (N := 17) ?hd (cs := #[.int .u32 0, .int .u32 0, .int .u32 0, .int .u32 0, .int .u32 0, .int .u32 0, .int .u32 0, .int .u32 0]) (t := 46) ?hr ?_; (case hd => rfl); (case hg => rfl); (case hr => first | (go_simp; done) | (go_simp; rfl)); intro gb169 hg w45 hbox hb; have n0_ := Aside0.mk (wrq BK136.out hb); have n1_ := Aside0.mk (wrq BK137.out hb); have n2_ := Aside0.mk (wrq BK154.out hb); have n3_ := Aside0.mk (wrq BK155.out hb); have n4_ := Aside0.mk (wrq BK159.out hb); have n5_ := Aside0.mk (below_step (wrs HB.out) hb); have n6_ := Aside0.mk (hbox); have n7_ := Aside0.mk ((by rw [hg]; exact (below_size (wrs HB.out)) : w.heap.size ≤ gb169)); have n8_ := Aside0.mk ((by rw [hg]; exact (below_size (wrs HB.out)) : w.heap.size ≤ gb169)); have n9_ := Aside0.mk ((by rw [hg]; exact Nat.ne_of_lt (blk_lt (g := gb136) (o := .cells #[.int .u64 a0, .int .u64 a1] 36 (0, 0)) (wrx BK136.out)) : gb136 ≠ gb169)); have n10_ := Aside0.mk ((by rw [hg]; exact Nat.ne_of_gt (blk_lt (g := gb136) (o := .cells #[.int .u64 a0, .int .u64 a1] 36 (0, 0)) (wrx BK136.out)) : gb169 ≠ gb136)); have n11_ := Aside0.mk ((by rw [hg]; exact Nat.ne_of_lt (blk_lt (g := gb137) (o := .cells #[.int .u64 a2, .int .u64 a3] 36 (0, 0)) (wrx BK137.out)) : gb137 ≠ gb169)); have n12_ := Aside0.mk ((by rw [hg]; exact Nat.ne_of_gt (blk_lt (g := gb137) (o := .cells #[.int .u64 a2, .int .u64 a3] 36 (0, 0)) (wrx BK137.out)) : gb169 ≠ gb137)); have n13_ := Aside0.mk ((by rw [hg]; exact Nat.ne_of_lt (blk_lt (g := gb154) (o := .cells #[.int .u32 t138, .int .u32 t139, .int .u32 t140, .int .u32 t141, .int .u32 t142, .int .u32 t143, .int .u32 t144, .int .u32 t145] 46 (0, 0)) (wrx BK154.out)) : gb154 ≠ gb169)); have n14_ := Aside0.mk ((by rw [hg]; exact Nat.ne_of_gt (blk_lt (g := gb154) (o := .cells #[.int .u32 t138, .int .u32 t139, .int .u32 t140, .int .u32 t141, .int .u32 t142, .int .u32 t143, .int .u32 t144, .int .u32 t145] 46 (0, 0)) (wrx BK154.out)) : gb169 ≠ gb154)); have n15_ := Aside0.mk ((by rw [hg]; exact Nat.ne_of_lt (blk_lt (g := gb155) (o := .cells #[.int .u32 t146, .int .u32 t147, .int .u32 t148, .int .u32 t149, .int .u32 t150, .int .u32 t151, .int .u32 t152, .int .u32 t153] 46 (0, 0)) (wrx BK155.out)) : gb155 ≠ gb169)); have n16_ := Aside0.mk ((by rw [hg]; exact Nat.ne_of_gt (blk_lt (g := gb155) (o := .cells #[.int .u32 t146, .int .u32 t147, .int .u32 t148, .int .u32 t149, .int .u32 t150, .int .u32 t151, .int .u32 t152, .int .u32 t153] 46 (0, 0)) (wrx BK155.out)) : gb169 ≠ gb155)); have n17_ := Aside0.mk ((by rw [hg]; exact Nat.ne_of_lt (blk_lt (g := gb159) (o := .cells #[.int .u64 t156, .int .u64 t157] 36 (0, 0)) (wrx BK159.out)) : gb159 ≠ gb169)); have n18_ := Aside0.mk ((by rw [hg]; exact Nat.ne_of_gt (blk_lt (g := gb159) (o := .cells #[.int .u64 t156, .int .u64 t157] 36 (0, 0)) (wrx BK159.out)) : gb169 ≠ gb159)); clear BK136; clear BK137; clear BK154; clear BK155; clear BK159; clear HB; have BK136 := n0_; have BK137 := n1_; have BK154 := n2_; have BK155 := n3_; have BK159 := n4_; have HB := n5_; have BK169 := n6_; have GW169 := n7_; have GE169 := n8_; have NB136_169 := n9_; have NB169_136 := n10_; have NB137_169 := n11_; have NB169_137 := n12_; have NB154_169 := n13_; have NB169_154 := n14_; have NB155_169 := n15_; have NB169_155 := n16_; have NB159_169 := n17_; have NB169_159 := n18_; clear n0_ n1_ n2_ n3_ n4_ n5_ n6_ n7_ n8_ n9_ n10_ n11_ n12_ n13_ n14_ n15_ n16_ n17_ n18_; clear hb hbox hg; have hnb46 := NB169_136.out; have hnc46 := NB136_169.out; have hnb47 := NB169_137.out; have hnc47 := NB137_169.out; have hnb48 := NB169_154.out; have hnc48 := NB154_169.out; have hnb49 := NB169_155.out; have hnc49 := NB155_169.out; have hnb50 := NB169_159.out; have hnc50 := NB159_169.out; have hcz51_0 : w45.cell? ⟨gb169, 0, none⟩ = some (.int .u32 0) := (blk_cell BK169.out 0).trans rfl; have hcz51_1 : w45.cell? ⟨gb169, 1, none⟩ = some (.int .u32 0) := (blk_cell BK169.out 1).trans rfl; have hcz51_2 : w45.cell? ⟨gb169, 2, none⟩ = some (.int .u32 0) := (blk_cell BK169.out 2).trans rfl; have hcz51_3 : w45.cell? ⟨gb169, 3, none⟩ = some (.int .u32 0) := (blk_cell BK169.out 3).trans rfl; have hcz51_4 : w45.cell? ⟨gb169, 4, none⟩ = some (.int .u32 0) := (blk_cell BK169.out 4).trans rfl; have hcz51_5 : w45.cell? ⟨gb169, 5, none⟩ = some (.int .u32 0) := (blk_cell BK169.out 5).trans rfl; have hcz51_6 : w45.cell? ⟨gb169, 6, none⟩ = some (.int .u32 0) := (blk_cell BK169.out 6).trans rfl; have hcz51_7 : w45.cell? ⟨gb169, 7, none⟩ = some (.int .u32 0) := (blk_cell BK169.out 7).trans rfl; have hfz51_0 := blk_frozen BK169.out 0; have hfz51_1 := blk_frozen BK169.out 1; have hfz51_2 := blk_frozen BK169.out 2; have hfz51_3 := blk_frozen BK169.out 3; have hfz51_4 := blk_frozen BK169.out 4; have hfz51_5 := blk_frozen BK169.out 5; have hfz51_6 := blk_frozen BK169.out 6; have hfz51_7 := blk_frozen BK169.out 7; have hcz52_0 : w45.cell? ⟨gb136, 0, none⟩ = some (.int .u64 a0) := (blk_cell BK136.out 0).trans rfl; have hcz52_1 : w45.cell? ⟨gb136, 1, none⟩ = some (.int .u64 a1) := (blk_cell BK136.out 1).trans rfl; have hfz52_0 := blk_frozen BK136.out 0; have hfz52_1 := blk_frozen BK136.out 1) | ((with_reducible refine gate_callee (f := 16) rfl ?_); refine goesL_ (some 57) rfl rfl Tryd.func16 (by kernel_rfl) rfl #[.agg #[.int .u64 a0, .int .u64 a1], .int .u64 a4] rfl (by (try simp only [List.map_toArray, List.map_cons, List.map_nil]); first | done | rfl | (simp only [List.length_drop, List.length_take]; rfl)) ?_; (with_reducible refine (wide_Wide_Add.calls a0 a1 a4 t170 t171 t172 _ A12.out).mono ?_); rintro e w53 ⟨rfl, hb⟩; refine ⟨_, rfl, ?_⟩; have n0_ := Aside0.mk (blk_below (wrf BK136.out) hb); have n1_ := Aside0.mk (blk_below (wrf BK137.out) hb); have n2_ := Aside0.mk (blk_below (wrf BK154.out) hb); have n3_ := Aside0.mk (blk_below (wrf BK155.out) hb); have n4_ := Aside0.mk (blk_below (wrf BK159.out) hb); have n5_ := Aside0.mk (blk_below (g := gb169) (o := .cells #[.int .u32 t160, .int .u32 t161, .int .u32 t162, .int .u32 t163, .int .u32 t164, .int .u32 t165, .int .u32 t166, .int .u32 t167] 46 (0, 0)) (by (with_reducible repeat (first | refine blk_drewN ?_ _ | refine blk_drew ?_ | refine blk_alloc ?_ _)); refine blk_put (cs := #[.int .u32 t160, .int .u32 t161, .int .u32 t162, .int .u32 t163, .int .u32 t164, .int .u32 t165, .int .u32 t166, .int .u32 0]) ?_ 7 _ rfl; (with_reducible repeat (first | refine blk_drewN ?_ _ | refine blk_drew ?_ | refine blk_alloc ?_ _)); refine blk_put (cs := #[.int .u32 t160, .int .u32 t161, .int .u32 t162, .int .u32 t163, .int .u32 t164, .int .u32 t165, .int .u32 0, .int .u32 0]) ?_ 6 _ rfl; (with_reducible repeat (first | refine blk_drewN ?_ _ | refine blk_drew ?_ | refine blk_alloc ?_ _)); refine blk_put (cs := #[.int .u32 t160, .int .u32 t161, .int .u32 t162, .int .u32 t163, .int .u32 t164, .int .u32 0, .int .u32 0, .int .u32 0]) ?_ 5 _ rfl; (with_reducible repeat (first | refine blk_drewN ?_ _ | refine blk_drew ?_ | refine blk_alloc ?_ _)); refine blk_put (cs := #[.int .u32 t160, .int .u32 t161, .int .u32 t162, .int .u32 t163, .int .u32 0, .int .u32 0, .int .u32 0, .int .u32 0]) ?_ 4 _ rfl; (with_reducible repeat (first | refine blk_drewN ?_ _ | refine blk_drew ?_ | refine blk_alloc ?_ _)); refine blk_put (cs := #[.int .u32 t160, .int .u32 t161, .int .u32 t162, .int .u32 0, .int .u32 0, .int .u32 0, .int .u32 0, .int .u32 0]) ?_ 3 _ rfl; (with_reducible repeat (first | refine blk_drewN ?_ _ | refine blk_drew ?_ | refine blk_alloc ?_ _)); refine blk_put (cs := #[.int .u32 t160, .int .u32 t161, .int .u32 0, .int .u32 0, .int .u32 0, .int .u32 0, .int .u32 0, .int .u32 0]) ?_ 2 _ rfl; (with_reducible repeat (first | refine blk_drewN ?_ _ | refine blk_drew ?_ | refine blk_alloc ?_ _)); refine blk_put (cs := #[.int .u32 t160, .int .u32 0, .int .u32 0, .int .u32 0, .int .u32 0, .int .u32 0, .int .u32 0, .int .u32 0]) ?_ 1 _ rfl; (with_reducible repeat (first | refine blk_drewN ?_ _ | refine blk_drew ?_ | refine blk_alloc ?_ _)); refine blk_put (cs := #[.int .u32 0, .int .u32 0, .int .u32 0, .int .u32 0, .int .u32 0, .int .u32 0, .int .u32 0, .int .u32 0]) ?_ 0 _ rfl; (with_reducible repeat (first | refine blk_drewN ?_ _ | refine blk_drew ?_ | refine blk_alloc ?_ _)); exact BK169.out) hb); have n6_ := Aside0.mk (below_step (wrs HB.out) hb); clear BK136; clear BK137; clear BK154; clear BK155; clear BK159; clear BK169; clear HB; have BK136 := n0_; have BK137 := n1_; have BK154 := n2_; have BK155 := n3_; have BK159 := n4_; have BK169 := n5_; have HB := n6_; clear n0_ n1_ n2_ n3_ n4_ n5_ n6_; (try clear hb); (try clear hb2); (try clear hk); (try clear hi); (try simp only [errW_none, errW_some])) | ((with_reducible refine gate_dst (N := 19) rfl ?_); refine box_event ?hg (N := 19) ?hd (cs := #[.int .u64 0, .int .u64 0]) (t := 36) ?hr ?_; (case hd => rfl); (case hg => rfl); (case hr => first | (go_simp; done) | (go_simp; rfl)); intro gb173 hg w54 hbox hb; have n0_ := Aside0.mk (wrq BK136.out hb); have n1_ := Aside0.mk (wrq BK137.out hb); have n2_ := Aside0.mk (wrq BK154.out hb); have n3_ := Aside0.mk (wrq BK155.out hb); have n4_ := Aside0.mk (wrq BK159.out hb); have n5_ := Aside0.mk (wrq BK169.out hb); have n6_ := Aside0.mk (below_step (wrs HB.out) hb); have n7_ := Aside0.mk (hbox); have n8_ := Aside0.mk ((by rw [hg]; exact (below_size (wrs HB.out)) : w.heap.size ≤ gb173)); have n9_ := Aside0.mk ((by rw [hg]; exact (below_size (wrs HB.out)) : w.heap.size ≤ gb173)); have n10_ := Aside0.mk ((by rw [hg]; exact Nat.ne_of_lt (blk_lt (g := gb136) (o := .cells #[.int .u64 a0, .int .u64 a1] 36 (0, 0)) (wrx BK136.out)) : gb136 ≠ gb173)); have n11_ := Aside0.mk ((by rw [hg]; exact Nat.ne_of_gt (blk_lt (g := gb136) (o := .cells #[.int .u64 a0, .int .u64 a1] 36 (0, 0)) (wrx BK136.out)) : gb173 ≠ gb136)); have n12_ := Aside0.mk ((by rw [hg]; exact Nat.ne_of_lt (blk_lt (g := gb137) (o := .cells #[.int .u64 a2, .int .u64 a3] 36 (0, 0)) (wrx BK137.out)) : gb137 ≠ gb173)); have n13_ := Aside0.mk ((by rw [hg]; exact Nat.ne_of_gt (blk_lt (g := gb137) (o := .cells #[.int .u64 a2, .int .u64 a3] 36 (0, 0)) (wrx BK137.out)) : gb173 ≠ gb137)); have n14_ := Aside0.mk ((by rw [hg]; exact Nat.ne_of_lt (blk_lt (g := gb154) (o := .cells #[.int .u32 t138, .int .u32 t139, .int .u32 t140, .int .u32 t141, .int .u32 t142, .int .u32 t143, .int .u32 t144, .int .u32 t145] 46 (0, 0)) (wrx BK154.out)) : gb154 ≠ gb173)); have n15_ := Aside0.mk ((by rw [hg]; exact Nat.ne_of_gt (blk_lt (g := gb154) (o := .cells #[.int .u32 t138, .int .u32 t139, .int .u32 t140, .int .u32 t141, .int .u32 t142, .int .u32 t143, .int .u32 t144, .int .u32 t145] 46 (0, 0)) (wrx BK154.out)) : gb173 ≠ gb154)); have n16_ := Aside0.mk ((by rw [hg]; exact Nat.ne_of_lt (blk_lt (g := gb155) (o := .cells #[.int .u32 t146, .int .u32 t147, .int .u32 t148, .int .u32 t149, .int .u32 t150, .int .u32 t151, .int .u32 t152, .int .u32 t153] 46 (0, 0)) (wrx BK155.out)) : gb155 ≠ gb173)); have n17_ := Aside0.mk ((by rw [hg]; exact Nat.ne_of_gt (blk_lt (g := gb155) (o := .cells #[.int .u32 t146, .int .u32 t147, .int .u32 t148, .int .u32 t149, .int .u32 t150, .int .u32 t151, .int .u32 t152, .int .u32 t153] 46 (0, 0)) (wrx BK155.out)) : gb173 ≠ gb155)); have n18_ := Aside0.mk ((by rw [hg]; exact Nat.ne_of_lt (blk_lt (g := gb159) (o := .cells #[.int .u64 t156, .int .u64 t157] 36 (0, 0)) (wrx BK159.out)) : gb159 ≠ gb173)); have n19_ := Aside0.mk ((by rw [hg]; exact Nat.ne_of_gt (blk_lt (g := gb159) (o := .cells #[.int .u64 t156, .int .u64 t157] 36 (0, 0)) (wrx BK159.out)) : gb173 ≠ gb159)); have n20_ := Aside0.mk ((by rw [hg]; exact Nat.ne_of_lt (blk_lt (g := gb169) (o := .cells #[.int .u32 t160, .int .u32 t161, .int .u32 t162, .int .u32 t163, .int .u32 t164, .int .u32 t165, .int .u32 t166, .int .u32 t167] 46 (0, 0)) (wrx BK169.out)) : gb169 ≠ gb173)); have n21_ := Aside0.mk ((by rw [hg]; exact Nat.ne_of_gt (blk_lt (g := gb169) (o := .cells #[.int .u32 t160, .int .u32 t161, .int .u32 t162, .int .u32 t163, .int .u32 t164, .int .u32 t165, .int .u32 t166, .int .u32 t167] 46 (0, 0)) (wrx BK169.out)) : gb173 ≠ gb169)); clear BK136; clear BK137; clear BK154; clear BK155; clear BK159; clear BK169; clear HB; have BK136 := n0_; have BK137 := n1_; have BK154 := n2_; have BK155 := n3_; have BK159 := n4_; have BK169 := n5_; have HB := n6_; have BK173 := n7_; have GW173 := n8_; have GE173 := n9_; have NB136_173 := n10_; have NB173_136 := n11_; have NB137_173 := n12_; have NB173_137 := n13_; have NB154_173 := n14_; have NB173_154 := n15_; have NB155_173 := n16_; have NB173_155 := n17_; have NB159_173 := n18_; have NB173_159 := n19_; have NB169_173 := n20_; have NB173_169 := n21_; clear n0_ n1_ n2_ n3_ n4_ n5_ n6_ n7_ n8_ n9_ n10_ n11_ n12_ n13_ n14_ n15_ n16_ n17_ n18_ n19_ n20_ n21_; clear hb hbox hg; have hnb55 := NB173_136.out; have hnc55 := NB136_173.out; have hnb56 := NB173_137.out; have hnc56 := NB137_173.out; have hnb57 := NB173_154.out; have hnc57 := NB154_173.out; have hnb58 := NB173_155.out; have hnc58 := NB155_173.out; have hnb59 := NB173_159.out; have hnc59 := NB159_173.out; have hnb60 := NB173_169.out; have hnc60 := NB169_173.out; have hcz61_0 : w54.cell? ⟨gb173, 0, none⟩ = some (.int .u64 0) := (blk_cell BK173.out 0).trans rfl; have hcz61_1 : w54.cell? ⟨gb173, 1, none⟩ = some (.int .u64 0) := (blk_cell BK173.out 1).trans rfl; have hfz61_0 := blk_frozen BK173.out 0; have hfz61_1 := blk_frozen BK173.out 1))
  have n0_ : Aside0 (((w54.setCell ⟨gb173, 0, none⟩ (.int .u64 t170)).setCell ⟨gb173, 1, none⟩ (.int .u64 t171)).heap[gb136]? = some (.cells #[.int .u64 a0, .int .u64 a1] 36 (0, 0))) := ⟨wrf BK136.out⟩
  have n1_ : Aside0 (((w54.setCell ⟨gb173, 0, none⟩ (.int .u64 t170)).setCell ⟨gb173, 1, none⟩ (.int .u64 t171)).heap[gb137]? = some (.cells #[.int .u64 a2, .int .u64 a3] 36 (0, 0))) := ⟨wrf BK137.out⟩
  have n2_ : Aside0 (((w54.setCell ⟨gb173, 0, none⟩ (.int .u64 t170)).setCell ⟨gb173, 1, none⟩ (.int .u64 t171)).heap[gb154]? = some (.cells #[.int .u32 t138, .int .u32 t139, .int .u32 t140, .int .u32 t141, .int .u32 t142, .int .u32 t143, .int .u32 t144, .int .u32 t145] 46 (0, 0))) := ⟨wrf BK154.out⟩
  have n3_ : Aside0 (((w54.setCell ⟨gb173, 0, none⟩ (.int .u64 t170)).setCell ⟨gb173, 1, none⟩ (.int .u64 t171)).heap[gb155]? = some (.cells #[.int .u32 t146, .int .u32 t147, .int .u32 t148, .int .u32 t149, .int .u32 t150, .int .u32 t151, .int .u32 t152, .int .u32 t153] 46 (0, 0))) := ⟨wrf BK155.out⟩
  have n4_ : Aside0 (((w54.setCell ⟨gb173, 0, none⟩ (.int .u64 t170)).setCell ⟨gb173, 1, none⟩ (.int .u64 t171)).heap[gb159]? = some (.cells #[.int .u64 t156, .int .u64 t157] 36 (0, 0))) := ⟨wrf BK159.out⟩
  have n5_ : Aside0 (((w54.setCell ⟨gb173, 0, none⟩ (.int .u64 t170)).setCell ⟨gb173, 1, none⟩ (.int .u64 t171)).heap[gb169]? = some (.cells #[.int .u32 t160, .int .u32 t161, .int .u32 t162, .int .u32 t163, .int .u32 t164, .int .u32 t165, .int .u32 t166, .int .u32 t167] 46 (0, 0))) := ⟨wrf BK169.out⟩
  have n6_ : Aside0 (((w54.setCell ⟨gb173, 0, none⟩ (.int .u64 t170)).setCell ⟨gb173, 1, none⟩ (.int .u64 t171)).heap[gb173]? = some (.cells #[.int .u64 t170, .int .u64 t171] 36 (0, 0))) := ⟨by (with_reducible repeat (first | refine blk_drewN ?_ _ | refine blk_drew ?_ | refine blk_alloc ?_ _)); refine blk_put (cs := #[.int .u64 t170, .int .u64 0]) ?_ 1 _ rfl; (with_reducible repeat (first | refine blk_drewN ?_ _ | refine blk_drew ?_ | refine blk_alloc ?_ _)); refine blk_put (cs := #[.int .u64 0, .int .u64 0]) ?_ 0 _ rfl; (with_reducible repeat (first | refine blk_drewN ?_ _ | refine blk_drew ?_ | refine blk_alloc ?_ _)); exact BK173.out⟩
  have n7_ : Aside0 (Below w.heap.size w ((w54.setCell ⟨gb173, 0, none⟩ (.int .u64 t170)).setCell ⟨gb173, 1, none⟩ (.int .u64 t171))) := ⟨wrs HB.out⟩
  (try clear BK136)
  (try clear BK137)
  (try clear BK154)
  (try clear BK155)
  (try clear BK159)
  (try clear BK169)
  (try clear BK173)
  (try clear HB)
  generalize ((w54.setCell ⟨gb173, 0, none⟩ (.int .u64 t170)).setCell ⟨gb173, 1, none⟩ (.int .u64 t171)) = w62 at n0_ n1_ n2_ n3_ n4_ n5_ n6_ n7_ ⊢
  have BK136 := n0_
  have BK137 := n1_
  have BK154 := n2_
  have BK155 := n3_
  have BK159 := n4_
  have BK169 := n5_
  have BK173 := n6_
  have HB := n7_
  clear n0_ n1_ n2_ n3_ n4_ n5_ n6_ n7_
  have n0_ := Aside0.mk (blk_drew BK136.out)
  have n1_ := Aside0.mk (blk_drew BK137.out)
  have n2_ := Aside0.mk (blk_drew BK154.out)
  have n3_ := Aside0.mk (blk_drew BK155.out)
  have n4_ := Aside0.mk (blk_drew BK159.out)
  have n5_ := Aside0.mk (blk_drew BK169.out)
  have n6_ := Aside0.mk (blk_drew BK173.out)
  have n7_ := Aside0.mk (below_drew1 HB.out)
  clear BK136
  clear BK137
  clear BK154
  clear BK155
  clear BK159
  clear BK169
  clear BK173
  clear HB
  have BK136 := n0_
  have BK137 := n1_
  have BK154 := n2_
  have BK155 := n3_
  have BK159 := n4_
  have BK169 := n5_
  have BK173 := n6_
  have HB := n7_
  clear n0_ n1_ n2_ n3_ n4_ n5_ n6_ n7_
  refine start_ (n := 10) (S := fun w' => w'.cell? ⟨gb154, 0, none⟩ = some (.int .u32 t138) ∧ w'.cell? ⟨gb154, 1, none⟩ = some (.int .u32 t139) ∧ w'.cell? ⟨gb154, 2, none⟩ = some (.int .u32 t140) ∧ w'.cell? ⟨gb154, 3, none⟩ = some (.int .u32 t141) ∧ w'.cell? ⟨gb154, 4, none⟩ = some (.int .u32 t142) ∧ w'.cell? ⟨gb154, 5, none⟩ = some (.int .u32 t143) ∧ w'.cell? ⟨gb154, 6, none⟩ = some (.int .u32 t144) ∧ w'.cell? ⟨gb154, 7, none⟩ = some (.int .u32 t145)) (ds := []) #[F_,F_,F_,F_,F_,F_,F_,F_,F_,F_] (by kernel_rfl) rfl rfl ⟨(blk_cell BK154.out 0).trans rfl, (blk_cell BK154.out 1).trans rfl, (blk_cell BK154.out 2).trans rfl, (blk_cell BK154.out 3).trans rfl, (blk_cell BK154.out 4).trans rfl, (blk_cell BK154.out 5).trans rfl, (blk_cell BK154.out 6).trans rfl, (blk_cell BK154.out 7).trans rfl⟩ (fun hHeld => ?_); refine with_tabW arrearslaw03_WideReckons.tab8 arrearslaw03_WideReckons.bits8 (fun HT_ HW_ => ?_)
  generalize w62.drew = w63 at BK136 BK137 BK154 BK155 BK159 BK169 BK173 HB hHeld ⊢
  refine pure_ (i := 1) (N := some 62) (v := ?_) (a' := ?_) #[F_,T_,F_,F_,F_,F_,F_,F_,F_,F_] rfl rfl (any_of HT_.out (by kernel_rfl)) (fun _ _ _ h => h) (Or.inl ⟨by rfl, ?_⟩) ?_ ?_
  rotate_left
  ·
   intro w'
   go_simp
   with_reducible rfl
  rotate_left
  ·
   simp only [Act.put, List.setIfInBounds_toArray, List.set_cons_zero, List.set_cons_succ, i64_w, i32_w]
   rfl
  refine take_ (i := 0) (N := some 61) (v := ?_) (a' := ?_) #[T_,T_,F_,F_,F_,F_,F_,F_,F_,F_] rfl rfl (take_ofW HT_.out HW_.out (by kernel_rfl)) (fun _ _ _ h => h) (Or.inl ⟨by rfl, ?_⟩) hHeld ?_ ?_
  rotate_left
  ·
   rintro w' ⟨s0, s1, s2, s3, s4, s5, s6, s7⟩
   go_simp
   with_reducible rfl
  rotate_left
  ·
   simp only [Act.put, List.setIfInBounds_toArray, List.set_cons_zero, List.set_cons_succ, i64_w, i32_w]
   rfl
  refine join_ (σ := Nat) 2 #[T_,T_,T_,T_,T_,T_,T_,T_,F_,F_] (fun s_ => [(63, .agg #[.int .u32 t174, .int .u32 t175, .int .u32 t176, .int .u32 t177, .int .u32 t178, .int .u32 t179, .int .u32 t180, .int .u32 t181]), (64, .tuple #[.agg #[.int .u32 t182, .int .u32 t183, .int .u32 t184, .int .u32 t185, .int .u32 t186, .int .u32 t187, .int .u32 t188, .int .u32 t189], .bool t190]), (21, .pointer (some ⟨s_, 0, none⟩)), (60, .tuple #[.agg #[.int .u32 t182, .int .u32 t183, .int .u32 t184, .int .u32 t185, .int .u32 t186, .int .u32 t187, .int .u32 t188, .int .u32 t189], .bool t190]), (65, .agg #[.int .u32 t182, .int .u32 t183, .int .u32 t184, .int .u32 t185, .int .u32 t186, .int .u32 t187, .int .u32 t188, .int .u32 t189]), (66, .bool t190)]) (fun s_ w' => (w'.cell? ⟨gb154, 0, none⟩ = some (.int .u32 t138) ∧ w'.cell? ⟨gb154, 1, none⟩ = some (.int .u32 t139) ∧ w'.cell? ⟨gb154, 2, none⟩ = some (.int .u32 t140) ∧ w'.cell? ⟨gb154, 3, none⟩ = some (.int .u32 t141) ∧ w'.cell? ⟨gb154, 4, none⟩ = some (.int .u32 t142) ∧ w'.cell? ⟨gb154, 5, none⟩ = some (.int .u32 t143) ∧ w'.cell? ⟨gb154, 6, none⟩ = some (.int .u32 t144) ∧ w'.cell? ⟨gb154, 7, none⟩ = some (.int .u32 t145)) ∧ (w'.heap[gb136]? = some (.cells #[.int .u64 a0, .int .u64 a1] 36 (0, 0))) ∧ (w'.heap[gb137]? = some (.cells #[.int .u64 a2, .int .u64 a3] 36 (0, 0))) ∧ (w'.heap[gb154]? = some (.cells #[.int .u32 t138, .int .u32 t139, .int .u32 t140, .int .u32 t141, .int .u32 t142, .int .u32 t143, .int .u32 t144, .int .u32 t145] 46 (0, 0))) ∧ (w'.heap[gb155]? = some (.cells #[.int .u32 t146, .int .u32 t147, .int .u32 t148, .int .u32 t149, .int .u32 t150, .int .u32 t151, .int .u32 t152, .int .u32 t153] 46 (0, 0))) ∧ (w'.heap[gb159]? = some (.cells #[.int .u64 t156, .int .u64 t157] 36 (0, 0))) ∧ (w'.heap[gb169]? = some (.cells #[.int .u32 t160, .int .u32 t161, .int .u32 t162, .int .u32 t163, .int .u32 t164, .int .u32 t165, .int .u32 t166, .int .u32 t167] 46 (0, 0))) ∧ (w'.heap[gb173]? = some (.cells #[.int .u64 t170, .int .u64 t171] 36 (0, 0))) ∧ (w'.heap[s_]? = some (.cells #[.int .u32 0, .int .u32 0, .int .u32 0, .int .u32 0, .int .u32 0, .int .u32 0, .int .u32 0, .int .u32 0] 46 (0, 0))) ∧ (w.heap.size ≤ s_) ∧ (w.heap.size ≤ s_) ∧ (gb136 ≠ s_) ∧ (s_ ≠ gb136) ∧ (gb137 ≠ s_) ∧ (s_ ≠ gb137) ∧ (gb154 ≠ s_) ∧ (s_ ≠ gb154) ∧ (gb155 ≠ s_) ∧ (s_ ≠ gb155) ∧ (gb159 ≠ s_) ∧ (s_ ≠ gb159) ∧ (gb169 ≠ s_) ∧ (s_ ≠ gb169) ∧ (gb173 ≠ s_) ∧ (s_ ≠ gb173) ∧ (Below w.heap.size w w')) ?_ ?_
  rotate_left
  ·
   intro hCont
   refine two_ (i := 2) (j := 7) (Ni := some 63) (Nj := some 21) #[T_,T_,T_,F_,F_,F_,F_,F_,F_,F_] #[T_,T_,F_,F_,F_,F_,F_,T_,F_,F_] rfl rfl rfl rfl (two_of HT_.out (by kernel_rfl)) (by decide) (by decide) (fun K hK => ?_) (fun K hK => ?_)
   ·
    skip
    refine goes_ Tryd.func18 (by kernel_rfl) rfl #[.int .u64 0, .int .u64 a4] (by rfl) rfl rfl (by (try simp only [List.map_toArray, List.map_cons, List.map_nil]); first | done | rfl | (simp only [List.length_drop, List.length_take]; rfl)) ?_
    with_reducible refine (arrearsref03_Of.calls 0 a4 t174 t175 t176 t177 t178 t179 t180 t181 _ A13.out).mono ?_
    rintro e w64 ⟨rfl, hb⟩
    refine ⟨_, rfl, ?_⟩
    have n0_ := Aside0.mk (wrq BK136.out hb)
    have n1_ := Aside0.mk (wrq BK137.out hb)
    have n2_ := Aside0.mk (wrq BK154.out hb)
    have n3_ := Aside0.mk (wrq BK155.out hb)
    have n4_ := Aside0.mk (wrq BK159.out hb)
    have n5_ := Aside0.mk (wrq BK169.out hb)
    have n6_ := Aside0.mk (wrq BK173.out hb)
    have n7_ := Aside0.mk (below_step (wrs HB.out) hb)
    clear BK136
    clear BK137
    clear BK154
    clear BK155
    clear BK159
    clear BK169
    clear BK173
    clear HB
    have BK136 := n0_
    have BK137 := n1_
    have BK154 := n2_
    have BK155 := n3_
    have BK159 := n4_
    have BK169 := n5_
    have BK173 := n6_
    have HB := n7_
    clear n0_ n1_ n2_ n3_ n4_ n5_ n6_ n7_
    (try clear hb)
    (try clear hb2)
    (try clear hk)
    (try clear hi)
    refine hK.out _ _ ⟨(blk_cell BK154.out 0).trans rfl, (blk_cell BK154.out 1).trans rfl, (blk_cell BK154.out 2).trans rfl, (blk_cell BK154.out 3).trans rfl, (blk_cell BK154.out 4).trans rfl, (blk_cell BK154.out 5).trans rfl, (blk_cell BK154.out 6).trans rfl, (blk_cell BK154.out 7).trans rfl⟩ (fun hHeld => ?_)
    clear hK K
    refine norm_ (a' := ?_) ?_ ?_
    rotate_left
    ·
     show Act.put _ (some 63) _ = _
     simp only [Act.put, List.setIfInBounds_toArray, List.set_cons_zero, List.set_cons_succ, i64_w, i32_w]
     rfl
    refine two_ (i := 3) (j := 7) (Ni := some 64) (Nj := some 21) #[T_,T_,T_,T_,F_,F_,F_,F_,F_,F_] #[T_,T_,T_,F_,F_,F_,F_,T_,F_,F_] rfl rfl rfl rfl (two_of HT_.out (by kernel_rfl)) (by decide) (by decide) (fun K hK => ?_) (fun K hK => ?_)
    ·
     skip
     refine goes_ Tryd.func19 (by kernel_rfl) rfl #[.agg #[.int .u32 t138, .int .u32 t139, .int .u32 t140, .int .u32 t141, .int .u32 t142, .int .u32 t143, .int .u32 t144, .int .u32 t145], .agg #[.int .u32 t174, .int .u32 t175, .int .u32 t176, .int .u32 t177, .int .u32 t178, .int .u32 t179, .int .u32 t180, .int .u32 t181]] (by rfl) rfl rfl (by (try simp only [List.map_toArray, List.map_cons, List.map_nil]); first | done | rfl | (simp only [List.length_drop, List.length_take]; rfl)) ?_
     with_reducible refine (arrearsref03_Add.calls t138 t139 t140 t141 t142 t143 t144 t145 t174 t175 t176 t177 t178 t179 t180 t181 t182 t183 t184 t185 t186 t187 t188 t189 t190 _ A14.out).mono ?_
     rintro e w65 ⟨rfl, hb⟩
     refine ⟨_, rfl, ?_⟩
     have n0_ := Aside0.mk (wrq BK136.out hb)
     have n1_ := Aside0.mk (wrq BK137.out hb)
     have n2_ := Aside0.mk (wrq BK154.out hb)
     have n3_ := Aside0.mk (wrq BK155.out hb)
     have n4_ := Aside0.mk (wrq BK159.out hb)
     have n5_ := Aside0.mk (wrq BK169.out hb)
     have n6_ := Aside0.mk (wrq BK173.out hb)
     have n7_ := Aside0.mk (below_step (wrs HB.out) hb)
     clear BK136
     clear BK137
     clear BK154
     clear BK155
     clear BK159
     clear BK169
     clear BK173
     clear HB
     have BK136 := n0_
     have BK137 := n1_
     have BK154 := n2_
     have BK155 := n3_
     have BK159 := n4_
     have BK169 := n5_
     have BK173 := n6_
     have HB := n7_
     clear n0_ n1_ n2_ n3_ n4_ n5_ n6_ n7_
     (try clear hb)
     (try clear hb2)
     (try clear hk)
     (try clear hi)
     refine hK.out _ _ ⟨(blk_cell BK154.out 0).trans rfl, (blk_cell BK154.out 1).trans rfl, (blk_cell BK154.out 2).trans rfl, (blk_cell BK154.out 3).trans rfl, (blk_cell BK154.out 4).trans rfl, (blk_cell BK154.out 5).trans rfl, (blk_cell BK154.out 6).trans rfl, (blk_cell BK154.out 7).trans rfl⟩ (fun hHeld => ?_)
     clear hK K
     refine norm_ (a' := ?_) ?_ ?_
     rotate_left
     ·
      show Act.put _ (some 64) _ = _
      simp only [Act.put, List.setIfInBounds_toArray, List.set_cons_zero, List.set_cons_succ, i64_w, i32_w]
      rfl
     refine pure_ (i := 4) (N := some 60) (v := ?_) (a' := ?_) #[T_,T_,T_,T_,T_,F_,F_,F_,F_,F_] rfl rfl (any_of HT_.out (by kernel_rfl)) (fun _ _ _ h => h) (Or.inl ⟨by rfl, ?_⟩) ?_ ?_
     rotate_left
     ·
      intro w'
      go_simp
      with_reducible rfl
     rotate_left
     ·
      simp only [Act.put, List.setIfInBounds_toArray, List.set_cons_zero, List.set_cons_succ, i64_w, i32_w]
      rfl
     refine pure_ (i := 5) (N := some 65) (v := ?_) (a' := ?_) #[T_,T_,T_,T_,T_,T_,F_,F_,F_,F_] rfl rfl (any_of HT_.out (by kernel_rfl)) (fun _ _ _ h => h) (Or.inl ⟨by rfl, ?_⟩) ?_ ?_
     rotate_left
     ·
      intro w'
      go_simp
      with_reducible rfl
     rotate_left
     ·
      simp only [Act.put, List.setIfInBounds_toArray, List.set_cons_zero, List.set_cons_succ, i64_w, i32_w]
      rfl
     refine pure_ (i := 6) (N := some 66) (v := ?_) (a' := ?_) #[T_,T_,T_,T_,T_,T_,T_,F_,F_,F_] rfl rfl (any_of HT_.out (by kernel_rfl)) (fun _ _ _ h => h) (Or.inl ⟨by rfl, ?_⟩) ?_ ?_
     rotate_left
     ·
      intro w'
      go_simp
      with_reducible rfl
     rotate_left
     ·
      simp only [Act.put, List.setIfInBounds_toArray, List.set_cons_zero, List.set_cons_succ, i64_w, i32_w]
      rfl
     refine one_ (i := 7) (N := some 21) #[T_,T_,T_,T_,T_,T_,T_,T_,F_,F_] rfl rfl (one_of HT_.out (by kernel_rfl)) (by decide) (fun K hK => ?_)
     refine box_step ?hg (N := 21) ?hd (cs := #[.int .u32 0, .int .u32 0, .int .u32 0, .int .u32 0, .int .u32 0, .int .u32 0, .int .u32 0, .int .u32 0]) (t := 46) ?hr ?_; (case hd => rfl); (case hg => rfl); (case hr => first | (go_simp; done) | (go_simp; rfl))
     intro gb191 hg w66 hbox hb
     have n0_ := Aside0.mk (wrq BK136.out hb)
     have n1_ := Aside0.mk (wrq BK137.out hb)
     have n2_ := Aside0.mk (wrq BK154.out hb)
     have n3_ := Aside0.mk (wrq BK155.out hb)
     have n4_ := Aside0.mk (wrq BK159.out hb)
     have n5_ := Aside0.mk (wrq BK169.out hb)
     have n6_ := Aside0.mk (wrq BK173.out hb)
     have n7_ := Aside0.mk (below_step (wrs HB.out) hb)
     have n8_ := Aside0.mk (hbox)
     have n9_ := Aside0.mk ((by rw [hg]; exact (below_size (wrs HB.out)) : w.heap.size ≤ gb191))
     have n10_ := Aside0.mk ((by rw [hg]; exact (below_size (wrs HB.out)) : w.heap.size ≤ gb191))
     have n11_ := Aside0.mk ((by rw [hg]; exact Nat.ne_of_lt (blk_lt (g := gb136) (o := .cells #[.int .u64 a0, .int .u64 a1] 36 (0, 0)) (wrx BK136.out)) : gb136 ≠ gb191))
     have n12_ := Aside0.mk ((by rw [hg]; exact Nat.ne_of_gt (blk_lt (g := gb136) (o := .cells #[.int .u64 a0, .int .u64 a1] 36 (0, 0)) (wrx BK136.out)) : gb191 ≠ gb136))
     have n13_ := Aside0.mk ((by rw [hg]; exact Nat.ne_of_lt (blk_lt (g := gb137) (o := .cells #[.int .u64 a2, .int .u64 a3] 36 (0, 0)) (wrx BK137.out)) : gb137 ≠ gb191))
     have n14_ := Aside0.mk ((by rw [hg]; exact Nat.ne_of_gt (blk_lt (g := gb137) (o := .cells #[.int .u64 a2, .int .u64 a3] 36 (0, 0)) (wrx BK137.out)) : gb191 ≠ gb137))
     have n15_ := Aside0.mk ((by rw [hg]; exact Nat.ne_of_lt (blk_lt (g := gb154) (o := .cells #[.int .u32 t138, .int .u32 t139, .int .u32 t140, .int .u32 t141, .int .u32 t142, .int .u32 t143, .int .u32 t144, .int .u32 t145] 46 (0, 0)) (wrx BK154.out)) : gb154 ≠ gb191))
     have n16_ := Aside0.mk ((by rw [hg]; exact Nat.ne_of_gt (blk_lt (g := gb154) (o := .cells #[.int .u32 t138, .int .u32 t139, .int .u32 t140, .int .u32 t141, .int .u32 t142, .int .u32 t143, .int .u32 t144, .int .u32 t145] 46 (0, 0)) (wrx BK154.out)) : gb191 ≠ gb154))
     have n17_ := Aside0.mk ((by rw [hg]; exact Nat.ne_of_lt (blk_lt (g := gb155) (o := .cells #[.int .u32 t146, .int .u32 t147, .int .u32 t148, .int .u32 t149, .int .u32 t150, .int .u32 t151, .int .u32 t152, .int .u32 t153] 46 (0, 0)) (wrx BK155.out)) : gb155 ≠ gb191))
     have n18_ := Aside0.mk ((by rw [hg]; exact Nat.ne_of_gt (blk_lt (g := gb155) (o := .cells #[.int .u32 t146, .int .u32 t147, .int .u32 t148, .int .u32 t149, .int .u32 t150, .int .u32 t151, .int .u32 t152, .int .u32 t153] 46 (0, 0)) (wrx BK155.out)) : gb191 ≠ gb155))
     have n19_ := Aside0.mk ((by rw [hg]; exact Nat.ne_of_lt (blk_lt (g := gb159) (o := .cells #[.int .u64 t156, .int .u64 t157] 36 (0, 0)) (wrx BK159.out)) : gb159 ≠ gb191))
     have n20_ := Aside0.mk ((by rw [hg]; exact Nat.ne_of_gt (blk_lt (g := gb159) (o := .cells #[.int .u64 t156, .int .u64 t157] 36 (0, 0)) (wrx BK159.out)) : gb191 ≠ gb159))
     have n21_ := Aside0.mk ((by rw [hg]; exact Nat.ne_of_lt (blk_lt (g := gb169) (o := .cells #[.int .u32 t160, .int .u32 t161, .int .u32 t162, .int .u32 t163, .int .u32 t164, .int .u32 t165, .int .u32 t166, .int .u32 t167] 46 (0, 0)) (wrx BK169.out)) : gb169 ≠ gb191))
     have n22_ := Aside0.mk ((by rw [hg]; exact Nat.ne_of_gt (blk_lt (g := gb169) (o := .cells #[.int .u32 t160, .int .u32 t161, .int .u32 t162, .int .u32 t163, .int .u32 t164, .int .u32 t165, .int .u32 t166, .int .u32 t167] 46 (0, 0)) (wrx BK169.out)) : gb191 ≠ gb169))
     have n23_ := Aside0.mk ((by rw [hg]; exact Nat.ne_of_lt (blk_lt (g := gb173) (o := .cells #[.int .u64 t170, .int .u64 t171] 36 (0, 0)) (wrx BK173.out)) : gb173 ≠ gb191))
     have n24_ := Aside0.mk ((by rw [hg]; exact Nat.ne_of_gt (blk_lt (g := gb173) (o := .cells #[.int .u64 t170, .int .u64 t171] 36 (0, 0)) (wrx BK173.out)) : gb191 ≠ gb173))
     clear BK136
     clear BK137
     clear BK154
     clear BK155
     clear BK159
     clear BK169
     clear BK173
     clear HB
     have BK136 := n0_
     have BK137 := n1_
     have BK154 := n2_
     have BK155 := n3_
     have BK159 := n4_
     have BK169 := n5_
     have BK173 := n6_
     have HB := n7_
     have BK191 := n8_
     have GW191 := n9_
     have GE191 := n10_
     have NB136_191 := n11_
     have NB191_136 := n12_
     have NB137_191 := n13_
     have NB191_137 := n14_
     have NB154_191 := n15_
     have NB191_154 := n16_
     have NB155_191 := n17_
     have NB191_155 := n18_
     have NB159_191 := n19_
     have NB191_159 := n20_
     have NB169_191 := n21_
     have NB191_169 := n22_
     have NB173_191 := n23_
     have NB191_173 := n24_
     clear n0_ n1_ n2_ n3_ n4_ n5_ n6_ n7_ n8_ n9_ n10_ n11_ n12_ n13_ n14_ n15_ n16_ n17_ n18_ n19_ n20_ n21_ n22_ n23_ n24_
     clear hb hbox hg
     refine hK.out _ _ ⟨(blk_cell BK154.out 0).trans rfl, (blk_cell BK154.out 1).trans rfl, (blk_cell BK154.out 2).trans rfl, (blk_cell BK154.out 3).trans rfl, (blk_cell BK154.out 4).trans rfl, (blk_cell BK154.out 5).trans rfl, (blk_cell BK154.out 6).trans rfl, (blk_cell BK154.out 7).trans rfl⟩ (fun hHeld => ?_)
     clear hK K
     refine norm_ (a' := ?_) ?_ ?_
     rotate_left
     ·
      show Act.put _ (some 21) _ = _
      simp only [Act.put, List.setIfInBounds_toArray, List.set_cons_zero, List.set_cons_succ, i64_w, i32_w]
      rfl
     exact norm_ (by first | (simp only [putAll, Act.put, List.setIfInBounds_toArray, List.set_cons_zero, List.set_cons_succ]; done) | (simp only [putAll, Act.put, List.setIfInBounds_toArray, List.set_cons_zero, List.set_cons_succ, i64_w, i32_w]; done) | (simp only [putAll, Act.put, List.setIfInBounds_toArray, List.set_cons_zero, List.set_cons_succ, i64_w, i32_w]; rfl)) (hCont (gb191) _ ⟨hHeld, (wrx BK136.out), (wrx BK137.out), (wrx BK154.out), (wrx BK155.out), (wrx BK159.out), (wrx BK169.out), (wrx BK173.out), (wrx BK191.out), GW191.out, GE191.out, NB136_191.out, NB191_136.out, NB137_191.out, NB191_137.out, NB154_191.out, NB191_154.out, NB155_191.out, NB191_155.out, NB159_191.out, NB191_159.out, NB169_191.out, NB191_169.out, NB173_191.out, NB191_173.out, (wrs HB.out)⟩)
    ·
     skip
     refine box_step ?hg (N := 21) ?hd (cs := #[.int .u32 0, .int .u32 0, .int .u32 0, .int .u32 0, .int .u32 0, .int .u32 0, .int .u32 0, .int .u32 0]) (t := 46) ?hr ?_; (case hd => rfl); (case hg => rfl); (case hr => first | (go_simp; done) | (go_simp; rfl))
     intro gb191 hg w65 hbox hb
     have n0_ := Aside0.mk (wrq BK136.out hb)
     have n1_ := Aside0.mk (wrq BK137.out hb)
     have n2_ := Aside0.mk (wrq BK154.out hb)
     have n3_ := Aside0.mk (wrq BK155.out hb)
     have n4_ := Aside0.mk (wrq BK159.out hb)
     have n5_ := Aside0.mk (wrq BK169.out hb)
     have n6_ := Aside0.mk (wrq BK173.out hb)
     have n7_ := Aside0.mk (below_step (wrs HB.out) hb)
     have n8_ := Aside0.mk (hbox)
     have n9_ := Aside0.mk ((by rw [hg]; exact (below_size (wrs HB.out)) : w.heap.size ≤ gb191))
     have n10_ := Aside0.mk ((by rw [hg]; exact (below_size (wrs HB.out)) : w.heap.size ≤ gb191))
     have n11_ := Aside0.mk ((by rw [hg]; exact Nat.ne_of_lt (blk_lt (g := gb136) (o := .cells #[.int .u64 a0, .int .u64 a1] 36 (0, 0)) (wrx BK136.out)) : gb136 ≠ gb191))
     have n12_ := Aside0.mk ((by rw [hg]; exact Nat.ne_of_gt (blk_lt (g := gb136) (o := .cells #[.int .u64 a0, .int .u64 a1] 36 (0, 0)) (wrx BK136.out)) : gb191 ≠ gb136))
     have n13_ := Aside0.mk ((by rw [hg]; exact Nat.ne_of_lt (blk_lt (g := gb137) (o := .cells #[.int .u64 a2, .int .u64 a3] 36 (0, 0)) (wrx BK137.out)) : gb137 ≠ gb191))
     have n14_ := Aside0.mk ((by rw [hg]; exact Nat.ne_of_gt (blk_lt (g := gb137) (o := .cells #[.int .u64 a2, .int .u64 a3] 36 (0, 0)) (wrx BK137.out)) : gb191 ≠ gb137))
     have n15_ := Aside0.mk ((by rw [hg]; exact Nat.ne_of_lt (blk_lt (g := gb154) (o := .cells #[.int .u32 t138, .int .u32 t139, .int .u32 t140, .int .u32 t141, .int .u32 t142, .int .u32 t143, .int .u32 t144, .int .u32 t145] 46 (0, 0)) (wrx BK154.out)) : gb154 ≠ gb191))
     have n16_ := Aside0.mk ((by rw [hg]; exact Nat.ne_of_gt (blk_lt (g := gb154) (o := .cells #[.int .u32 t138, .int .u32 t139, .int .u32 t140, .int .u32 t141, .int .u32 t142, .int .u32 t143, .int .u32 t144, .int .u32 t145] 46 (0, 0)) (wrx BK154.out)) : gb191 ≠ gb154))
     have n17_ := Aside0.mk ((by rw [hg]; exact Nat.ne_of_lt (blk_lt (g := gb155) (o := .cells #[.int .u32 t146, .int .u32 t147, .int .u32 t148, .int .u32 t149, .int .u32 t150, .int .u32 t151, .int .u32 t152, .int .u32 t153] 46 (0, 0)) (wrx BK155.out)) : gb155 ≠ gb191))
     have n18_ := Aside0.mk ((by rw [hg]; exact Nat.ne_of_gt (blk_lt (g := gb155) (o := .cells #[.int .u32 t146, .int .u32 t147, .int .u32 t148, .int .u32 t149, .int .u32 t150, .int .u32 t151, .int .u32 t152, .int .u32 t153] 46 (0, 0)) (wrx BK155.out)) : gb191 ≠ gb155))
     have n19_ := Aside0.mk ((by rw [hg]; exact Nat.ne_of_lt (blk_lt (g := gb159) (o := .cells #[.int .u64 t156, .int .u64 t157] 36 (0, 0)) (wrx BK159.out)) : gb159 ≠ gb191))
     have n20_ := Aside0.mk ((by rw [hg]; exact Nat.ne_of_gt (blk_lt (g := gb159) (o := .cells #[.int .u64 t156, .int .u64 t157] 36 (0, 0)) (wrx BK159.out)) : gb191 ≠ gb159))
     have n21_ := Aside0.mk ((by rw [hg]; exact Nat.ne_of_lt (blk_lt (g := gb169) (o := .cells #[.int .u32 t160, .int .u32 t161, .int .u32 t162, .int .u32 t163, .int .u32 t164, .int .u32 t165, .int .u32 t166, .int .u32 t167] 46 (0, 0)) (wrx BK169.out)) : gb169 ≠ gb191))
     have n22_ := Aside0.mk ((by rw [hg]; exact Nat.ne_of_gt (blk_lt (g := gb169) (o := .cells #[.int .u32 t160, .int .u32 t161, .int .u32 t162, .int .u32 t163, .int .u32 t164, .int .u32 t165, .int .u32 t166, .int .u32 t167] 46 (0, 0)) (wrx BK169.out)) : gb191 ≠ gb169))
     have n23_ := Aside0.mk ((by rw [hg]; exact Nat.ne_of_lt (blk_lt (g := gb173) (o := .cells #[.int .u64 t170, .int .u64 t171] 36 (0, 0)) (wrx BK173.out)) : gb173 ≠ gb191))
     have n24_ := Aside0.mk ((by rw [hg]; exact Nat.ne_of_gt (blk_lt (g := gb173) (o := .cells #[.int .u64 t170, .int .u64 t171] 36 (0, 0)) (wrx BK173.out)) : gb191 ≠ gb173))
     clear BK136
     clear BK137
     clear BK154
     clear BK155
     clear BK159
     clear BK169
     clear BK173
     clear HB
     have BK136 := n0_
     have BK137 := n1_
     have BK154 := n2_
     have BK155 := n3_
     have BK159 := n4_
     have BK169 := n5_
     have BK173 := n6_
     have HB := n7_
     have BK191 := n8_
     have GW191 := n9_
     have GE191 := n10_
     have NB136_191 := n11_
     have NB191_136 := n12_
     have NB137_191 := n13_
     have NB191_137 := n14_
     have NB154_191 := n15_
     have NB191_154 := n16_
     have NB155_191 := n17_
     have NB191_155 := n18_
     have NB159_191 := n19_
     have NB191_159 := n20_
     have NB169_191 := n21_
     have NB191_169 := n22_
     have NB173_191 := n23_
     have NB191_173 := n24_
     clear n0_ n1_ n2_ n3_ n4_ n5_ n6_ n7_ n8_ n9_ n10_ n11_ n12_ n13_ n14_ n15_ n16_ n17_ n18_ n19_ n20_ n21_ n22_ n23_ n24_
     clear hb hbox hg
     refine hK.out _ _ ⟨(blk_cell BK154.out 0).trans rfl, (blk_cell BK154.out 1).trans rfl, (blk_cell BK154.out 2).trans rfl, (blk_cell BK154.out 3).trans rfl, (blk_cell BK154.out 4).trans rfl, (blk_cell BK154.out 5).trans rfl, (blk_cell BK154.out 6).trans rfl, (blk_cell BK154.out 7).trans rfl⟩ (fun hHeld => ?_)
     clear hK K
     refine norm_ (a' := ?_) ?_ ?_
     rotate_left
     ·
      show Act.put _ (some 21) _ = _
      simp only [Act.put, List.setIfInBounds_toArray, List.set_cons_zero, List.set_cons_succ, i64_w, i32_w]
      rfl
     refine one_ (i := 3) (N := some 64) #[T_,T_,T_,T_,F_,F_,F_,T_,F_,F_] rfl rfl (one_of HT_.out (by kernel_rfl)) (by decide) (fun K hK => ?_)
     refine goes_ Tryd.func19 (by kernel_rfl) rfl #[.agg #[.int .u32 t138, .int .u32 t139, .int .u32 t140, .int .u32 t141, .int .u32 t142, .int .u32 t143, .int .u32 t144, .int .u32 t145], .agg #[.int .u32 t174, .int .u32 t175, .int .u32 t176, .int .u32 t177, .int .u32 t178, .int .u32 t179, .int .u32 t180, .int .u32 t181]] (by rfl) rfl rfl (by (try simp only [List.map_toArray, List.map_cons, List.map_nil]); first | done | rfl | (simp only [List.length_drop, List.length_take]; rfl)) ?_
     with_reducible refine (arrearsref03_Add.calls t138 t139 t140 t141 t142 t143 t144 t145 t174 t175 t176 t177 t178 t179 t180 t181 t182 t183 t184 t185 t186 t187 t188 t189 t190 _ A14.out).mono ?_
     rintro e w66 ⟨rfl, hb⟩
     refine ⟨_, rfl, ?_⟩
     have n0_ := Aside0.mk (wrq BK136.out hb)
     have n1_ := Aside0.mk (wrq BK137.out hb)
     have n2_ := Aside0.mk (wrq BK154.out hb)
     have n3_ := Aside0.mk (wrq BK155.out hb)
     have n4_ := Aside0.mk (wrq BK159.out hb)
     have n5_ := Aside0.mk (wrq BK169.out hb)
     have n6_ := Aside0.mk (wrq BK173.out hb)
     have n7_ := Aside0.mk (wrq BK191.out hb)
     have n8_ := Aside0.mk (below_step (wrs HB.out) hb)
     clear BK136
     clear BK137
     clear BK154
     clear BK155
     clear BK159
     clear BK169
     clear BK173
     clear BK191
     clear HB
     have BK136 := n0_
     have BK137 := n1_
     have BK154 := n2_
     have BK155 := n3_
     have BK159 := n4_
     have BK169 := n5_
     have BK173 := n6_
     have BK191 := n7_
     have HB := n8_
     clear n0_ n1_ n2_ n3_ n4_ n5_ n6_ n7_ n8_
     (try clear hb)
     (try clear hb2)
     (try clear hk)
     (try clear hi)
     refine hK.out _ _ ⟨(blk_cell BK154.out 0).trans rfl, (blk_cell BK154.out 1).trans rfl, (blk_cell BK154.out 2).trans rfl, (blk_cell BK154.out 3).trans rfl, (blk_cell BK154.out 4).trans rfl, (blk_cell BK154.out 5).trans rfl, (blk_cell BK154.out 6).trans rfl, (blk_cell BK154.out 7).trans rfl⟩ (fun hHeld => ?_)
     clear hK K
     refine norm_ (a' := ?_) ?_ ?_
     rotate_left
     ·
      show Act.put _ (some 64) _ = _
      simp only [Act.put, List.setIfInBounds_toArray, List.set_cons_zero, List.set_cons_succ, i64_w, i32_w]
      rfl
     refine pure_ (i := 4) (N := some 60) (v := ?_) (a' := ?_) #[T_,T_,T_,T_,T_,F_,F_,T_,F_,F_] rfl rfl (any_of HT_.out (by kernel_rfl)) (fun _ _ _ h => h) (Or.inl ⟨by rfl, ?_⟩) ?_ ?_
     rotate_left
     ·
      intro w'
      go_simp
      with_reducible rfl
     rotate_left
     ·
      simp only [Act.put, List.setIfInBounds_toArray, List.set_cons_zero, List.set_cons_succ, i64_w, i32_w]
      rfl
     refine pure_ (i := 5) (N := some 65) (v := ?_) (a' := ?_) #[T_,T_,T_,T_,T_,T_,F_,T_,F_,F_] rfl rfl (any_of HT_.out (by kernel_rfl)) (fun _ _ _ h => h) (Or.inl ⟨by rfl, ?_⟩) ?_ ?_
     rotate_left
     ·
      intro w'
      go_simp
      with_reducible rfl
     rotate_left
     ·
      simp only [Act.put, List.setIfInBounds_toArray, List.set_cons_zero, List.set_cons_succ, i64_w, i32_w]
      rfl
     refine pure_ (i := 6) (N := some 66) (v := ?_) (a' := ?_) #[T_,T_,T_,T_,T_,T_,T_,T_,F_,F_] rfl rfl (any_of HT_.out (by kernel_rfl)) (fun _ _ _ h => h) (Or.inl ⟨by rfl, ?_⟩) ?_ ?_
     rotate_left
     ·
      intro w'
      go_simp
      with_reducible rfl
     rotate_left
     ·
      simp only [Act.put, List.setIfInBounds_toArray, List.set_cons_zero, List.set_cons_succ, i64_w, i32_w]
      rfl
     exact norm_ (by first | (simp only [putAll, Act.put, List.setIfInBounds_toArray, List.set_cons_zero, List.set_cons_succ]; done) | (simp only [putAll, Act.put, List.setIfInBounds_toArray, List.set_cons_zero, List.set_cons_succ, i64_w, i32_w]; done) | (simp only [putAll, Act.put, List.setIfInBounds_toArray, List.set_cons_zero, List.set_cons_succ, i64_w, i32_w]; rfl)) (hCont (gb191) _ ⟨hHeld, (wrx BK136.out), (wrx BK137.out), (wrx BK154.out), (wrx BK155.out), (wrx BK159.out), (wrx BK169.out), (wrx BK173.out), (wrx BK191.out), GW191.out, GE191.out, NB136_191.out, NB191_136.out, NB137_191.out, NB191_137.out, NB154_191.out, NB191_154.out, NB155_191.out, NB191_155.out, NB159_191.out, NB191_159.out, NB169_191.out, NB191_169.out, NB173_191.out, NB191_173.out, (wrs HB.out)⟩)
   ·
    skip
    refine box_step ?hg (N := 21) ?hd (cs := #[.int .u32 0, .int .u32 0, .int .u32 0, .int .u32 0, .int .u32 0, .int .u32 0, .int .u32 0, .int .u32 0]) (t := 46) ?hr ?_; (case hd => rfl); (case hg => rfl); (case hr => first | (go_simp; done) | (go_simp; rfl))
    intro gb191 hg w64 hbox hb
    have n0_ := Aside0.mk (wrq BK136.out hb)
    have n1_ := Aside0.mk (wrq BK137.out hb)
    have n2_ := Aside0.mk (wrq BK154.out hb)
    have n3_ := Aside0.mk (wrq BK155.out hb)
    have n4_ := Aside0.mk (wrq BK159.out hb)
    have n5_ := Aside0.mk (wrq BK169.out hb)
    have n6_ := Aside0.mk (wrq BK173.out hb)
    have n7_ := Aside0.mk (below_step (wrs HB.out) hb)
    have n8_ := Aside0.mk (hbox)
    have n9_ := Aside0.mk ((by rw [hg]; exact (below_size (wrs HB.out)) : w.heap.size ≤ gb191))
    have n10_ := Aside0.mk ((by rw [hg]; exact (below_size (wrs HB.out)) : w.heap.size ≤ gb191))
    have n11_ := Aside0.mk ((by rw [hg]; exact Nat.ne_of_lt (blk_lt (g := gb136) (o := .cells #[.int .u64 a0, .int .u64 a1] 36 (0, 0)) (wrx BK136.out)) : gb136 ≠ gb191))
    have n12_ := Aside0.mk ((by rw [hg]; exact Nat.ne_of_gt (blk_lt (g := gb136) (o := .cells #[.int .u64 a0, .int .u64 a1] 36 (0, 0)) (wrx BK136.out)) : gb191 ≠ gb136))
    have n13_ := Aside0.mk ((by rw [hg]; exact Nat.ne_of_lt (blk_lt (g := gb137) (o := .cells #[.int .u64 a2, .int .u64 a3] 36 (0, 0)) (wrx BK137.out)) : gb137 ≠ gb191))
    have n14_ := Aside0.mk ((by rw [hg]; exact Nat.ne_of_gt (blk_lt (g := gb137) (o := .cells #[.int .u64 a2, .int .u64 a3] 36 (0, 0)) (wrx BK137.out)) : gb191 ≠ gb137))
    have n15_ := Aside0.mk ((by rw [hg]; exact Nat.ne_of_lt (blk_lt (g := gb154) (o := .cells #[.int .u32 t138, .int .u32 t139, .int .u32 t140, .int .u32 t141, .int .u32 t142, .int .u32 t143, .int .u32 t144, .int .u32 t145] 46 (0, 0)) (wrx BK154.out)) : gb154 ≠ gb191))
    have n16_ := Aside0.mk ((by rw [hg]; exact Nat.ne_of_gt (blk_lt (g := gb154) (o := .cells #[.int .u32 t138, .int .u32 t139, .int .u32 t140, .int .u32 t141, .int .u32 t142, .int .u32 t143, .int .u32 t144, .int .u32 t145] 46 (0, 0)) (wrx BK154.out)) : gb191 ≠ gb154))
    have n17_ := Aside0.mk ((by rw [hg]; exact Nat.ne_of_lt (blk_lt (g := gb155) (o := .cells #[.int .u32 t146, .int .u32 t147, .int .u32 t148, .int .u32 t149, .int .u32 t150, .int .u32 t151, .int .u32 t152, .int .u32 t153] 46 (0, 0)) (wrx BK155.out)) : gb155 ≠ gb191))
    have n18_ := Aside0.mk ((by rw [hg]; exact Nat.ne_of_gt (blk_lt (g := gb155) (o := .cells #[.int .u32 t146, .int .u32 t147, .int .u32 t148, .int .u32 t149, .int .u32 t150, .int .u32 t151, .int .u32 t152, .int .u32 t153] 46 (0, 0)) (wrx BK155.out)) : gb191 ≠ gb155))
    have n19_ := Aside0.mk ((by rw [hg]; exact Nat.ne_of_lt (blk_lt (g := gb159) (o := .cells #[.int .u64 t156, .int .u64 t157] 36 (0, 0)) (wrx BK159.out)) : gb159 ≠ gb191))
    have n20_ := Aside0.mk ((by rw [hg]; exact Nat.ne_of_gt (blk_lt (g := gb159) (o := .cells #[.int .u64 t156, .int .u64 t157] 36 (0, 0)) (wrx BK159.out)) : gb191 ≠ gb159))
    have n21_ := Aside0.mk ((by rw [hg]; exact Nat.ne_of_lt (blk_lt (g := gb169) (o := .cells #[.int .u32 t160, .int .u32 t161, .int .u32 t162, .int .u32 t163, .int .u32 t164, .int .u32 t165, .int .u32 t166, .int .u32 t167] 46 (0, 0)) (wrx BK169.out)) : gb169 ≠ gb191))
    have n22_ := Aside0.mk ((by rw [hg]; exact Nat.ne_of_gt (blk_lt (g := gb169) (o := .cells #[.int .u32 t160, .int .u32 t161, .int .u32 t162, .int .u32 t163, .int .u32 t164, .int .u32 t165, .int .u32 t166, .int .u32 t167] 46 (0, 0)) (wrx BK169.out)) : gb191 ≠ gb169))
    have n23_ := Aside0.mk ((by rw [hg]; exact Nat.ne_of_lt (blk_lt (g := gb173) (o := .cells #[.int .u64 t170, .int .u64 t171] 36 (0, 0)) (wrx BK173.out)) : gb173 ≠ gb191))
    have n24_ := Aside0.mk ((by rw [hg]; exact Nat.ne_of_gt (blk_lt (g := gb173) (o := .cells #[.int .u64 t170, .int .u64 t171] 36 (0, 0)) (wrx BK173.out)) : gb191 ≠ gb173))
    clear BK136
    clear BK137
    clear BK154
    clear BK155
    clear BK159
    clear BK169
    clear BK173
    clear HB
    have BK136 := n0_
    have BK137 := n1_
    have BK154 := n2_
    have BK155 := n3_
    have BK159 := n4_
    have BK169 := n5_
    have BK173 := n6_
    have HB := n7_
    have BK191 := n8_
    have GW191 := n9_
    have GE191 := n10_
    have NB136_191 := n11_
    have NB191_136 := n12_
    have NB137_191 := n13_
    have NB191_137 := n14_
    have NB154_191 := n15_
    have NB191_154 := n16_
    have NB155_191 := n17_
    have NB191_155 := n18_
    have NB159_191 := n19_
    have NB191_159 := n20_
    have NB169_191 := n21_
    have NB191_169 := n22_
    have NB173_191 := n23_
    have NB191_173 := n24_
    clear n0_ n1_ n2_ n3_ n4_ n5_ n6_ n7_ n8_ n9_ n10_ n11_ n12_ n13_ n14_ n15_ n16_ n17_ n18_ n19_ n20_ n21_ n22_ n23_ n24_
    clear hb hbox hg
    refine hK.out _ _ ⟨(blk_cell BK154.out 0).trans rfl, (blk_cell BK154.out 1).trans rfl, (blk_cell BK154.out 2).trans rfl, (blk_cell BK154.out 3).trans rfl, (blk_cell BK154.out 4).trans rfl, (blk_cell BK154.out 5).trans rfl, (blk_cell BK154.out 6).trans rfl, (blk_cell BK154.out 7).trans rfl⟩ (fun hHeld => ?_)
    clear hK K
    refine norm_ (a' := ?_) ?_ ?_
    rotate_left
    ·
     show Act.put _ (some 21) _ = _
     simp only [Act.put, List.setIfInBounds_toArray, List.set_cons_zero, List.set_cons_succ, i64_w, i32_w]
     rfl
    refine one_ (i := 2) (N := some 63) #[T_,T_,T_,F_,F_,F_,F_,T_,F_,F_] rfl rfl (one_of HT_.out (by kernel_rfl)) (by decide) (fun K hK => ?_)
    refine goes_ Tryd.func18 (by kernel_rfl) rfl #[.int .u64 0, .int .u64 a4] (by rfl) rfl rfl (by (try simp only [List.map_toArray, List.map_cons, List.map_nil]); first | done | rfl | (simp only [List.length_drop, List.length_take]; rfl)) ?_
    with_reducible refine (arrearsref03_Of.calls 0 a4 t174 t175 t176 t177 t178 t179 t180 t181 _ A13.out).mono ?_
    rintro e w65 ⟨rfl, hb⟩
    refine ⟨_, rfl, ?_⟩
    have n0_ := Aside0.mk (wrq BK136.out hb)
    have n1_ := Aside0.mk (wrq BK137.out hb)
    have n2_ := Aside0.mk (wrq BK154.out hb)
    have n3_ := Aside0.mk (wrq BK155.out hb)
    have n4_ := Aside0.mk (wrq BK159.out hb)
    have n5_ := Aside0.mk (wrq BK169.out hb)
    have n6_ := Aside0.mk (wrq BK173.out hb)
    have n7_ := Aside0.mk (wrq BK191.out hb)
    have n8_ := Aside0.mk (below_step (wrs HB.out) hb)
    clear BK136
    clear BK137
    clear BK154
    clear BK155
    clear BK159
    clear BK169
    clear BK173
    clear BK191
    clear HB
    have BK136 := n0_
    have BK137 := n1_
    have BK154 := n2_
    have BK155 := n3_
    have BK159 := n4_
    have BK169 := n5_
    have BK173 := n6_
    have BK191 := n7_
    have HB := n8_
    clear n0_ n1_ n2_ n3_ n4_ n5_ n6_ n7_ n8_
    (try clear hb)
    (try clear hb2)
    (try clear hk)
    (try clear hi)
    refine hK.out _ _ ⟨(blk_cell BK154.out 0).trans rfl, (blk_cell BK154.out 1).trans rfl, (blk_cell BK154.out 2).trans rfl, (blk_cell BK154.out 3).trans rfl, (blk_cell BK154.out 4).trans rfl, (blk_cell BK154.out 5).trans rfl, (blk_cell BK154.out 6).trans rfl, (blk_cell BK154.out 7).trans rfl⟩ (fun hHeld => ?_)
    clear hK K
    refine norm_ (a' := ?_) ?_ ?_
    rotate_left
    ·
     show Act.put _ (some 63) _ = _
     simp only [Act.put, List.setIfInBounds_toArray, List.set_cons_zero, List.set_cons_succ, i64_w, i32_w]
     rfl
    refine one_ (i := 3) (N := some 64) #[T_,T_,T_,T_,F_,F_,F_,T_,F_,F_] rfl rfl (one_of HT_.out (by kernel_rfl)) (by decide) (fun K hK => ?_)
    refine goes_ Tryd.func19 (by kernel_rfl) rfl #[.agg #[.int .u32 t138, .int .u32 t139, .int .u32 t140, .int .u32 t141, .int .u32 t142, .int .u32 t143, .int .u32 t144, .int .u32 t145], .agg #[.int .u32 t174, .int .u32 t175, .int .u32 t176, .int .u32 t177, .int .u32 t178, .int .u32 t179, .int .u32 t180, .int .u32 t181]] (by rfl) rfl rfl (by (try simp only [List.map_toArray, List.map_cons, List.map_nil]); first | done | rfl | (simp only [List.length_drop, List.length_take]; rfl)) ?_
    with_reducible refine (arrearsref03_Add.calls t138 t139 t140 t141 t142 t143 t144 t145 t174 t175 t176 t177 t178 t179 t180 t181 t182 t183 t184 t185 t186 t187 t188 t189 t190 _ A14.out).mono ?_
    rintro e w66 ⟨rfl, hb⟩
    refine ⟨_, rfl, ?_⟩
    have n0_ := Aside0.mk (wrq BK136.out hb)
    have n1_ := Aside0.mk (wrq BK137.out hb)
    have n2_ := Aside0.mk (wrq BK154.out hb)
    have n3_ := Aside0.mk (wrq BK155.out hb)
    have n4_ := Aside0.mk (wrq BK159.out hb)
    have n5_ := Aside0.mk (wrq BK169.out hb)
    have n6_ := Aside0.mk (wrq BK173.out hb)
    have n7_ := Aside0.mk (wrq BK191.out hb)
    have n8_ := Aside0.mk (below_step (wrs HB.out) hb)
    clear BK136
    clear BK137
    clear BK154
    clear BK155
    clear BK159
    clear BK169
    clear BK173
    clear BK191
    clear HB
    have BK136 := n0_
    have BK137 := n1_
    have BK154 := n2_
    have BK155 := n3_
    have BK159 := n4_
    have BK169 := n5_
    have BK173 := n6_
    have BK191 := n7_
    have HB := n8_
    clear n0_ n1_ n2_ n3_ n4_ n5_ n6_ n7_ n8_
    (try clear hb)
    (try clear hb2)
    (try clear hk)
    (try clear hi)
    refine hK.out _ _ ⟨(blk_cell BK154.out 0).trans rfl, (blk_cell BK154.out 1).trans rfl, (blk_cell BK154.out 2).trans rfl, (blk_cell BK154.out 3).trans rfl, (blk_cell BK154.out 4).trans rfl, (blk_cell BK154.out 5).trans rfl, (blk_cell BK154.out 6).trans rfl, (blk_cell BK154.out 7).trans rfl⟩ (fun hHeld => ?_)
    clear hK K
    refine norm_ (a' := ?_) ?_ ?_
    rotate_left
    ·
     show Act.put _ (some 64) _ = _
     simp only [Act.put, List.setIfInBounds_toArray, List.set_cons_zero, List.set_cons_succ, i64_w, i32_w]
     rfl
    refine pure_ (i := 4) (N := some 60) (v := ?_) (a' := ?_) #[T_,T_,T_,T_,T_,F_,F_,T_,F_,F_] rfl rfl (any_of HT_.out (by kernel_rfl)) (fun _ _ _ h => h) (Or.inl ⟨by rfl, ?_⟩) ?_ ?_
    rotate_left
    ·
     intro w'
     go_simp
     with_reducible rfl
    rotate_left
    ·
     simp only [Act.put, List.setIfInBounds_toArray, List.set_cons_zero, List.set_cons_succ, i64_w, i32_w]
     rfl
    refine pure_ (i := 5) (N := some 65) (v := ?_) (a' := ?_) #[T_,T_,T_,T_,T_,T_,F_,T_,F_,F_] rfl rfl (any_of HT_.out (by kernel_rfl)) (fun _ _ _ h => h) (Or.inl ⟨by rfl, ?_⟩) ?_ ?_
    rotate_left
    ·
     intro w'
     go_simp
     with_reducible rfl
    rotate_left
    ·
     simp only [Act.put, List.setIfInBounds_toArray, List.set_cons_zero, List.set_cons_succ, i64_w, i32_w]
     rfl
    refine pure_ (i := 6) (N := some 66) (v := ?_) (a' := ?_) #[T_,T_,T_,T_,T_,T_,T_,T_,F_,F_] rfl rfl (any_of HT_.out (by kernel_rfl)) (fun _ _ _ h => h) (Or.inl ⟨by rfl, ?_⟩) ?_ ?_
    rotate_left
    ·
     intro w'
     go_simp
     with_reducible rfl
    rotate_left
    ·
     simp only [Act.put, List.setIfInBounds_toArray, List.set_cons_zero, List.set_cons_succ, i64_w, i32_w]
     rfl
    exact norm_ (by first | (simp only [putAll, Act.put, List.setIfInBounds_toArray, List.set_cons_zero, List.set_cons_succ]; done) | (simp only [putAll, Act.put, List.setIfInBounds_toArray, List.set_cons_zero, List.set_cons_succ, i64_w, i32_w]; done) | (simp only [putAll, Act.put, List.setIfInBounds_toArray, List.set_cons_zero, List.set_cons_succ, i64_w, i32_w]; rfl)) (hCont (gb191) _ ⟨hHeld, (wrx BK136.out), (wrx BK137.out), (wrx BK154.out), (wrx BK155.out), (wrx BK159.out), (wrx BK169.out), (wrx BK173.out), (wrx BK191.out), GW191.out, GE191.out, NB136_191.out, NB191_136.out, NB137_191.out, NB191_137.out, NB154_191.out, NB191_154.out, NB155_191.out, NB191_155.out, NB159_191.out, NB191_159.out, NB169_191.out, NB191_169.out, NB173_191.out, NB191_173.out, (wrs HB.out)⟩)
  rintro gb191 w67 ⟨hS_, h0_, h1_, h2_, h3_, h4_, h5_, h6_, h7_, h8_, h9_, h10_, h11_, h12_, h13_, h14_, h15_, h16_, h17_, h18_, h19_, h20_, h21_, h22_, h23_, h24_⟩
  have n0_ : Aside0 (w67.heap[gb136]? = some (.cells #[.int .u64 a0, .int .u64 a1] 36 (0, 0))) := ⟨h0_⟩
  have n1_ : Aside0 (w67.heap[gb137]? = some (.cells #[.int .u64 a2, .int .u64 a3] 36 (0, 0))) := ⟨h1_⟩
  have n2_ : Aside0 (w67.heap[gb154]? = some (.cells #[.int .u32 t138, .int .u32 t139, .int .u32 t140, .int .u32 t141, .int .u32 t142, .int .u32 t143, .int .u32 t144, .int .u32 t145] 46 (0, 0))) := ⟨h2_⟩
  have n3_ : Aside0 (w67.heap[gb155]? = some (.cells #[.int .u32 t146, .int .u32 t147, .int .u32 t148, .int .u32 t149, .int .u32 t150, .int .u32 t151, .int .u32 t152, .int .u32 t153] 46 (0, 0))) := ⟨h3_⟩
  have n4_ : Aside0 (w67.heap[gb159]? = some (.cells #[.int .u64 t156, .int .u64 t157] 36 (0, 0))) := ⟨h4_⟩
  have n5_ : Aside0 (w67.heap[gb169]? = some (.cells #[.int .u32 t160, .int .u32 t161, .int .u32 t162, .int .u32 t163, .int .u32 t164, .int .u32 t165, .int .u32 t166, .int .u32 t167] 46 (0, 0))) := ⟨h5_⟩
  have n6_ : Aside0 (w67.heap[gb173]? = some (.cells #[.int .u64 t170, .int .u64 t171] 36 (0, 0))) := ⟨h6_⟩
  have n7_ : Aside0 (w67.heap[gb191]? = some (.cells #[.int .u32 0, .int .u32 0, .int .u32 0, .int .u32 0, .int .u32 0, .int .u32 0, .int .u32 0, .int .u32 0] 46 (0, 0))) := ⟨h7_⟩
  have n8_ : Aside0 (w.heap.size ≤ gb191) := ⟨h8_⟩
  have n9_ : Aside0 (w.heap.size ≤ gb191) := ⟨h9_⟩
  have n10_ : Aside0 (gb136 ≠ gb191) := ⟨h10_⟩
  have n11_ : Aside0 (gb191 ≠ gb136) := ⟨h11_⟩
  have n12_ : Aside0 (gb137 ≠ gb191) := ⟨h12_⟩
  have n13_ : Aside0 (gb191 ≠ gb137) := ⟨h13_⟩
  have n14_ : Aside0 (gb154 ≠ gb191) := ⟨h14_⟩
  have n15_ : Aside0 (gb191 ≠ gb154) := ⟨h15_⟩
  have n16_ : Aside0 (gb155 ≠ gb191) := ⟨h16_⟩
  have n17_ : Aside0 (gb191 ≠ gb155) := ⟨h17_⟩
  have n18_ : Aside0 (gb159 ≠ gb191) := ⟨h18_⟩
  have n19_ : Aside0 (gb191 ≠ gb159) := ⟨h19_⟩
  have n20_ : Aside0 (gb169 ≠ gb191) := ⟨h20_⟩
  have n21_ : Aside0 (gb191 ≠ gb169) := ⟨h21_⟩
  have n22_ : Aside0 (gb173 ≠ gb191) := ⟨h22_⟩
  have n23_ : Aside0 (gb191 ≠ gb173) := ⟨h23_⟩
  have n24_ : Aside0 (Below w.heap.size w w67) := ⟨h24_⟩
  clear BK136
  clear BK137
  clear BK154
  clear BK155
  clear BK159
  clear BK169
  clear BK173
  clear HB
  clear h0_ h1_ h2_ h3_ h4_ h5_ h6_ h7_ h8_ h9_ h10_ h11_ h12_ h13_ h14_ h15_ h16_ h17_ h18_ h19_ h20_ h21_ h22_ h23_ h24_
  have BK136 := n0_
  have BK137 := n1_
  have BK154 := n2_
  have BK155 := n3_
  have BK159 := n4_
  have BK169 := n5_
  have BK173 := n6_
  have BK191 := n7_
  have GW191 := n8_
  have GE191 := n9_
  have NB136_191 := n10_
  have NB191_136 := n11_
  have NB137_191 := n12_
  have NB191_137 := n13_
  have NB154_191 := n14_
  have NB191_154 := n15_
  have NB155_191 := n16_
  have NB191_155 := n17_
  have NB159_191 := n18_
  have NB191_159 := n19_
  have NB169_191 := n20_
  have NB191_169 := n21_
  have NB173_191 := n22_
  have NB191_173 := n23_
  have HB := n24_
  clear n0_ n1_ n2_ n3_ n4_ n5_ n6_ n7_ n8_ n9_ n10_ n11_ n12_ n13_ n14_ n15_ n16_ n17_ n18_ n19_ n20_ n21_ n22_ n23_ n24_
  have hHeld : w67.cell? ⟨gb154, 0, none⟩ = some (.int .u32 t138) ∧ w67.cell? ⟨gb154, 1, none⟩ = some (.int .u32 t139) ∧ w67.cell? ⟨gb154, 2, none⟩ = some (.int .u32 t140) ∧ w67.cell? ⟨gb154, 3, none⟩ = some (.int .u32 t141) ∧ w67.cell? ⟨gb154, 4, none⟩ = some (.int .u32 t142) ∧ w67.cell? ⟨gb154, 5, none⟩ = some (.int .u32 t143) ∧ w67.cell? ⟨gb154, 6, none⟩ = some (.int .u32 t144) ∧ w67.cell? ⟨gb154, 7, none⟩ = some (.int .u32 t145) := hS_
  refine norm_ (a' := ?_) ?_ ?_
  rotate_left
  ·
   simp only [putAll, Act.put, List.setIfInBounds_toArray, List.set_cons_zero, List.set_cons_succ]
   rfl
  refine one_ (i := 8) (N := none) #[T_,T_,T_,T_,T_,T_,T_,T_,T_,F_] rfl rfl (one_of HT_.out (by kernel_rfl)) (by decide) (fun K hK => ?_)
  have hs68 : w67.cell? ⟨gb191, 0, none⟩ = some (.int .u32 0) := (blk_cell BK191.out 0).trans rfl
  have hfs68 := blk_frozen BK191.out 0
  have hns68_0 := NB136_191.out
  have hns68_1 := NB137_191.out
  have hns68_2 := NB154_191.out
  have hns68_3 := NB155_191.out
  have hns68_4 := NB159_191.out
  have hns68_5 := NB169_191.out
  have hns68_6 := NB173_191.out
  have hms68_0 := NB191_136.out
  have hms68_1 := NB191_137.out
  have hms68_2 := NB191_154.out
  have hms68_3 := NB191_155.out
  have hms68_4 := NB191_159.out
  have hms68_5 := NB191_169.out
  have hms68_6 := NB191_173.out
  have hs69 : w67.cell? ⟨gb191, 1, none⟩ = some (.int .u32 0) := (blk_cell BK191.out 1).trans rfl
  have hfs69 := blk_frozen BK191.out 1
  have hns69_0 := NB136_191.out
  have hns69_1 := NB137_191.out
  have hns69_2 := NB154_191.out
  have hns69_3 := NB155_191.out
  have hns69_4 := NB159_191.out
  have hns69_5 := NB169_191.out
  have hns69_6 := NB173_191.out
  have hms69_0 := NB191_136.out
  have hms69_1 := NB191_137.out
  have hms69_2 := NB191_154.out
  have hms69_3 := NB191_155.out
  have hms69_4 := NB191_159.out
  have hms69_5 := NB191_169.out
  have hms69_6 := NB191_173.out
  have hs70 : w67.cell? ⟨gb191, 2, none⟩ = some (.int .u32 0) := (blk_cell BK191.out 2).trans rfl
  have hfs70 := blk_frozen BK191.out 2
  have hns70_0 := NB136_191.out
  have hns70_1 := NB137_191.out
  have hns70_2 := NB154_191.out
  have hns70_3 := NB155_191.out
  have hns70_4 := NB159_191.out
  have hns70_5 := NB169_191.out
  have hns70_6 := NB173_191.out
  have hms70_0 := NB191_136.out
  have hms70_1 := NB191_137.out
  have hms70_2 := NB191_154.out
  have hms70_3 := NB191_155.out
  have hms70_4 := NB191_159.out
  have hms70_5 := NB191_169.out
  have hms70_6 := NB191_173.out
  have hs71 : w67.cell? ⟨gb191, 3, none⟩ = some (.int .u32 0) := (blk_cell BK191.out 3).trans rfl
  have hfs71 := blk_frozen BK191.out 3
  have hns71_0 := NB136_191.out
  have hns71_1 := NB137_191.out
  have hns71_2 := NB154_191.out
  have hns71_3 := NB155_191.out
  have hns71_4 := NB159_191.out
  have hns71_5 := NB169_191.out
  have hns71_6 := NB173_191.out
  have hms71_0 := NB191_136.out
  have hms71_1 := NB191_137.out
  have hms71_2 := NB191_154.out
  have hms71_3 := NB191_155.out
  have hms71_4 := NB191_159.out
  have hms71_5 := NB191_169.out
  have hms71_6 := NB191_173.out
  have hs72 : w67.cell? ⟨gb191, 4, none⟩ = some (.int .u32 0) := (blk_cell BK191.out 4).trans rfl
  have hfs72 := blk_frozen BK191.out 4
  have hns72_0 := NB136_191.out
  have hns72_1 := NB137_191.out
  have hns72_2 := NB154_191.out
  have hns72_3 := NB155_191.out
  have hns72_4 := NB159_191.out
  have hns72_5 := NB169_191.out
  have hns72_6 := NB173_191.out
  have hms72_0 := NB191_136.out
  have hms72_1 := NB191_137.out
  have hms72_2 := NB191_154.out
  have hms72_3 := NB191_155.out
  have hms72_4 := NB191_159.out
  have hms72_5 := NB191_169.out
  have hms72_6 := NB191_173.out
  have hs73 : w67.cell? ⟨gb191, 5, none⟩ = some (.int .u32 0) := (blk_cell BK191.out 5).trans rfl
  have hfs73 := blk_frozen BK191.out 5
  have hns73_0 := NB136_191.out
  have hns73_1 := NB137_191.out
  have hns73_2 := NB154_191.out
  have hns73_3 := NB155_191.out
  have hns73_4 := NB159_191.out
  have hns73_5 := NB169_191.out
  have hns73_6 := NB173_191.out
  have hms73_0 := NB191_136.out
  have hms73_1 := NB191_137.out
  have hms73_2 := NB191_154.out
  have hms73_3 := NB191_155.out
  have hms73_4 := NB191_159.out
  have hms73_5 := NB191_169.out
  have hms73_6 := NB191_173.out
  have hs74 : w67.cell? ⟨gb191, 6, none⟩ = some (.int .u32 0) := (blk_cell BK191.out 6).trans rfl
  have hfs74 := blk_frozen BK191.out 6
  have hns74_0 := NB136_191.out
  have hns74_1 := NB137_191.out
  have hns74_2 := NB154_191.out
  have hns74_3 := NB155_191.out
  have hns74_4 := NB159_191.out
  have hns74_5 := NB169_191.out
  have hns74_6 := NB173_191.out
  have hms74_0 := NB191_136.out
  have hms74_1 := NB191_137.out
  have hms74_2 := NB191_154.out
  have hms74_3 := NB191_155.out
  have hms74_4 := NB191_159.out
  have hms74_5 := NB191_169.out
  have hms74_6 := NB191_173.out
  have hs75 : w67.cell? ⟨gb191, 7, none⟩ = some (.int .u32 0) := (blk_cell BK191.out 7).trans rfl
  have hfs75 := blk_frozen BK191.out 7
  have hns75_0 := NB136_191.out
  have hns75_1 := NB137_191.out
  have hns75_2 := NB154_191.out
  have hns75_3 := NB155_191.out
  have hns75_4 := NB159_191.out
  have hns75_5 := NB169_191.out
  have hns75_6 := NB173_191.out
  have hms75_0 := NB191_136.out
  have hms75_1 := NB191_137.out
  have hms75_2 := NB191_154.out
  have hms75_3 := NB191_155.out
  have hms75_4 := NB191_159.out
  have hms75_5 := NB191_169.out
  have hms75_6 := NB191_173.out
  refine skip_ (w1 := ?_) (by rfl) rfl ?_ ?_
  rotate_left
  ·
   go_simp
   rfl
  refine hK.out _ _ ⟨((cell_far (p := ⟨gb191, _, none⟩) NB154_191.out _).trans (((cell_far (p := ⟨gb191, _, none⟩) NB154_191.out _).trans (((cell_far (p := ⟨gb191, _, none⟩) NB154_191.out _).trans (((cell_far (p := ⟨gb191, _, none⟩) NB154_191.out _).trans (((cell_far (p := ⟨gb191, _, none⟩) NB154_191.out _).trans (((cell_far (p := ⟨gb191, _, none⟩) NB154_191.out _).trans (((cell_far (p := ⟨gb191, _, none⟩) NB154_191.out _).trans (((cell_far (p := ⟨gb191, _, none⟩) NB154_191.out _).trans (hHeld.1)))))))))))))))), ((cell_far (p := ⟨gb191, _, none⟩) NB154_191.out _).trans (((cell_far (p := ⟨gb191, _, none⟩) NB154_191.out _).trans (((cell_far (p := ⟨gb191, _, none⟩) NB154_191.out _).trans (((cell_far (p := ⟨gb191, _, none⟩) NB154_191.out _).trans (((cell_far (p := ⟨gb191, _, none⟩) NB154_191.out _).trans (((cell_far (p := ⟨gb191, _, none⟩) NB154_191.out _).trans (((cell_far (p := ⟨gb191, _, none⟩) NB154_191.out _).trans (((cell_far (p := ⟨gb191, _, none⟩) NB154_191.out _).trans (hHeld.2.1)))))))))))))))), ((cell_far (p := ⟨gb191, _, none⟩) NB154_191.out _).trans (((cell_far (p := ⟨gb191, _, none⟩) NB154_191.out _).trans (((cell_far (p := ⟨gb191, _, none⟩) NB154_191.out _).trans (((cell_far (p := ⟨gb191, _, none⟩) NB154_191.out _).trans (((cell_far (p := ⟨gb191, _, none⟩) NB154_191.out _).trans (((cell_far (p := ⟨gb191, _, none⟩) NB154_191.out _).trans (((cell_far (p := ⟨gb191, _, none⟩) NB154_191.out _).trans (((cell_far (p := ⟨gb191, _, none⟩) NB154_191.out _).trans (hHeld.2.2.1)))))))))))))))), ((cell_far (p := ⟨gb191, _, none⟩) NB154_191.out _).trans (((cell_far (p := ⟨gb191, _, none⟩) NB154_191.out _).trans (((cell_far (p := ⟨gb191, _, none⟩) NB154_191.out _).trans (((cell_far (p := ⟨gb191, _, none⟩) NB154_191.out _).trans (((cell_far (p := ⟨gb191, _, none⟩) NB154_191.out _).trans (((cell_far (p := ⟨gb191, _, none⟩) NB154_191.out _).trans (((cell_far (p := ⟨gb191, _, none⟩) NB154_191.out _).trans (((cell_far (p := ⟨gb191, _, none⟩) NB154_191.out _).trans (hHeld.2.2.2.1)))))))))))))))), ((cell_far (p := ⟨gb191, _, none⟩) NB154_191.out _).trans (((cell_far (p := ⟨gb191, _, none⟩) NB154_191.out _).trans (((cell_far (p := ⟨gb191, _, none⟩) NB154_191.out _).trans (((cell_far (p := ⟨gb191, _, none⟩) NB154_191.out _).trans (((cell_far (p := ⟨gb191, _, none⟩) NB154_191.out _).trans (((cell_far (p := ⟨gb191, _, none⟩) NB154_191.out _).trans (((cell_far (p := ⟨gb191, _, none⟩) NB154_191.out _).trans (((cell_far (p := ⟨gb191, _, none⟩) NB154_191.out _).trans (hHeld.2.2.2.2.1)))))))))))))))), ((cell_far (p := ⟨gb191, _, none⟩) NB154_191.out _).trans (((cell_far (p := ⟨gb191, _, none⟩) NB154_191.out _).trans (((cell_far (p := ⟨gb191, _, none⟩) NB154_191.out _).trans (((cell_far (p := ⟨gb191, _, none⟩) NB154_191.out _).trans (((cell_far (p := ⟨gb191, _, none⟩) NB154_191.out _).trans (((cell_far (p := ⟨gb191, _, none⟩) NB154_191.out _).trans (((cell_far (p := ⟨gb191, _, none⟩) NB154_191.out _).trans (((cell_far (p := ⟨gb191, _, none⟩) NB154_191.out _).trans (hHeld.2.2.2.2.2.1)))))))))))))))), ((cell_far (p := ⟨gb191, _, none⟩) NB154_191.out _).trans (((cell_far (p := ⟨gb191, _, none⟩) NB154_191.out _).trans (((cell_far (p := ⟨gb191, _, none⟩) NB154_191.out _).trans (((cell_far (p := ⟨gb191, _, none⟩) NB154_191.out _).trans (((cell_far (p := ⟨gb191, _, none⟩) NB154_191.out _).trans (((cell_far (p := ⟨gb191, _, none⟩) NB154_191.out _).trans (((cell_far (p := ⟨gb191, _, none⟩) NB154_191.out _).trans (((cell_far (p := ⟨gb191, _, none⟩) NB154_191.out _).trans (hHeld.2.2.2.2.2.2.1)))))))))))))))), ((cell_far (p := ⟨gb191, _, none⟩) NB154_191.out _).trans (((cell_far (p := ⟨gb191, _, none⟩) NB154_191.out _).trans (((cell_far (p := ⟨gb191, _, none⟩) NB154_191.out _).trans (((cell_far (p := ⟨gb191, _, none⟩) NB154_191.out _).trans (((cell_far (p := ⟨gb191, _, none⟩) NB154_191.out _).trans (((cell_far (p := ⟨gb191, _, none⟩) NB154_191.out _).trans (((cell_far (p := ⟨gb191, _, none⟩) NB154_191.out _).trans (((cell_far (p := ⟨gb191, _, none⟩) NB154_191.out _).trans (hHeld.2.2.2.2.2.2.2))))))))))))))))⟩ (fun hHeld => ?_)
  clear hK K
  refine pure_ (i := 9) (N := some 22) (v := ?_) (a' := ?_) #[T_,T_,T_,T_,T_,T_,T_,T_,T_,T_] rfl rfl (any_of HT_.out (by kernel_rfl)) (fun _ _ _ h => h) (Or.inl ⟨by rfl, ?_⟩) ?_ ?_
  rotate_left
  ·
   intro w'
   go_simp
   with_reducible rfl
  rotate_left
  ·
   simp only [Act.put, List.setIfInBounds_toArray, List.set_cons_zero, List.set_cons_succ, i64_w, i32_w]
   rfl
  refine done_ (done_of HT_.out (by kernel_rfl)) ?_
  (try simp only [errW_none, errW_some])
  go_upto_region 9 with (fail)
  go_cut [119] (fun v119 wc => ∃ (kq : Nat) (x119_14 : Bool), v119 = .bool x119_14 ∧ Aside0 (arrearslaw03_WideReckons.j0 kq a0 a2 a4 x119_14 a0 a1 a2 a3 t138 t139 t140 t141 t142 t143 t144 t145 t146 t147 t148 t149 t150 t151 t152 t153 = some r) ∧ Aside0 (kq ≤ k) ∧ Aside0 (wc.heap[gb136]? = some (.cells #[.int .u64 a0, .int .u64 a1] 36 (0, 0))) ∧ Aside0 (wc.heap[gb137]? = some (.cells #[.int .u64 a2, .int .u64 a3] 36 (0, 0))) ∧ Aside0 (wc.heap[gb154]? = some (.cells #[.int .u32 t138, .int .u32 t139, .int .u32 t140, .int .u32 t141, .int .u32 t142, .int .u32 t143, .int .u32 t144, .int .u32 t145] 46 (0, 0))) ∧ Aside0 (wc.heap[gb155]? = some (.cells #[.int .u32 t146, .int .u32 t147, .int .u32 t148, .int .u32 t149, .int .u32 t150, .int .u32 t151, .int .u32 t152, .int .u32 t153] 46 (0, 0))) ∧ Aside0 (wc.heap[gb159]? = some (.cells #[.int .u64 t156, .int .u64 t157] 36 (0, 0))) ∧ Aside0 (wc.heap[gb169]? = some (.cells #[.int .u32 t160, .int .u32 t161, .int .u32 t162, .int .u32 t163, .int .u32 t164, .int .u32 t165, .int .u32 t166, .int .u32 t167] 46 (0, 0))) ∧ Aside0 (wc.heap[gb173]? = some (.cells #[.int .u64 t170, .int .u64 t171] 36 (0, 0))) ∧ Aside0 (wc.heap[gb191]? = some (.cells #[.int .u32 t182, .int .u32 t183, .int .u32 t184, .int .u32 t185, .int .u32 t186, .int .u32 t187, .int .u32 t188, .int .u32 t189] 46 (0, 0))) ∧ Aside0 (Below w.heap.size w wc))
  case first =>
   have H := HC15.out
   clear HC15
   rcases t158 with _ | q192
   ·
    rw [if_pos (show (none : Option Int).isNone = true by rfl)] at H
    have H1 := H
    clear H
    have H := H1
    clear H1
    try simp only [errW_none, errW_some]
    by_cases c76 : (true != t168) = true
    ·
     rw [if_pos c76] at H
     have c76b0 : (true != t168) = true := c76
     (try (have c76b1 : decide (true = t168) = false := by simpa using c76))
     (try (have c76b2 : (true == t168) = false := by simpa using c76))
     (try (have c76b3 : ¬ (true = t168) := by simpa using c76))
     clear c76
     (first | rw [c76b0] | (simp only [i64_w, i32_w]; rw [c76b0]) | skip)
     exact wrfalse H HR.out
    ·
     rw [if_neg c76] at H
     have c76b0 : (true != t168) = false := by simpa using c76
     (try (have c76b1 : decide (true = t168) = true := by simpa using c76))
     (try (have c76b2 : (true == t168) = true := by simpa using c76))
     clear c76
     (first | rw [c76b0] | (simp only [i64_w, i32_w]; rw [c76b0]) | skip)
     rcases t172 with _ | q193
     ·
      rw [if_pos (show (none : Option Int).isNone = true by rfl)] at H
      have H1 := H
      clear H
      have H := H1
      clear H1
      try simp only [errW_none, errW_some]
      by_cases c77 : (true != t190) = true
      ·
       rw [if_pos c77] at H
       have c77b0 : (true != t190) = true := c77
       (try (have c77b1 : decide (true = t190) = false := by simpa using c77))
       (try (have c77b2 : (true == t190) = false := by simpa using c77))
       (try (have c77b3 : ¬ (true = t190) := by simpa using c77))
       clear c77
       exact wrfalse H HR.out
      ·
       rw [if_neg c77] at H
       have c77b0 : (true != t190) = false := by simpa using c77
       (try (have c77b1 : decide (true = t190) = true := by simpa using c77))
       (try (have c77b2 : (true == t190) = true := by simpa using c77))
       clear c77
       replace H := Option.bind_eq_some_iff.mp H
       obtain ⟨t194, A780, H⟩ := H
       (try dsimp only at H)
       have A78 := Aside0.mk A780
       clear A780
       by_cases c79 : t194 = true
       ·
        subst c79
        rw [if_pos rfl] at H
        have H1 := H
        clear H
        have H := H1
        clear H1
        replace H := Option.bind_eq_some_iff.mp H
        obtain ⟨t195, A800, H⟩ := H
        (try dsimp only at H)
        have A80 := Aside0.mk A800
        clear A800
        by_cases c81 : t195 = true
        ·
         subst c81
         have H1 : (arrearslaw03_WideReckons.j0 k a0 a2 a4 false a0 a1 a2 a3 t138 t139 t140 t141 t142 t143 t144 t145 t146 t147 t148 t149 t150 t151 t152 t153) = some r := by rw [if_pos rfl] at H; exact H
         clear H
         have H := H1
         clear H1
         have H' := Aside0.mk H
         clear H
         have hnb82 := NB159_136.out
         have hnc82 := NB136_159.out
         have hnb83 := NB159_137.out
         have hnc83 := NB137_159.out
         have hnb84 := NB159_154.out
         have hnc84 := NB154_159.out
         have hnb85 := NB159_155.out
         have hnc85 := NB155_159.out
         have hnb86 := NB159_169.out
         have hnc86 := NB169_159.out
         have hnb87 := NB159_173.out
         have hnc87 := NB173_159.out
         have hnb88 := NB159_191.out
         have hnc88 := NB191_159.out
         have hcz89_0 : w67.cell? ⟨gb159, 0, none⟩ = some (.int .u64 t156) := (blk_cell BK159.out 0).trans rfl
         have hcz89_1 : w67.cell? ⟨gb159, 1, none⟩ = some (.int .u64 t157) := (blk_cell BK159.out 1).trans rfl
         have hfz89_0 := blk_frozen BK159.out 0
         have hfz89_1 := blk_frozen BK159.out 1
         have hnb90 := NB169_136.out
         have hnc90 := NB136_169.out
         have hnb91 := NB169_137.out
         have hnc91 := NB137_169.out
         have hnb92 := NB169_154.out
         have hnc92 := NB154_169.out
         have hnb93 := NB169_155.out
         have hnc93 := NB155_169.out
         have hnb94 := NB169_173.out
         have hnc94 := NB173_169.out
         have hnb95 := NB169_191.out
         have hnc95 := NB191_169.out
         have hcz96_0 : w67.cell? ⟨gb169, 0, none⟩ = some (.int .u32 t160) := (blk_cell BK169.out 0).trans rfl
         have hcz96_1 : w67.cell? ⟨gb169, 1, none⟩ = some (.int .u32 t161) := (blk_cell BK169.out 1).trans rfl
         have hcz96_2 : w67.cell? ⟨gb169, 2, none⟩ = some (.int .u32 t162) := (blk_cell BK169.out 2).trans rfl
         have hcz96_3 : w67.cell? ⟨gb169, 3, none⟩ = some (.int .u32 t163) := (blk_cell BK169.out 3).trans rfl
         have hcz96_4 : w67.cell? ⟨gb169, 4, none⟩ = some (.int .u32 t164) := (blk_cell BK169.out 4).trans rfl
         have hcz96_5 : w67.cell? ⟨gb169, 5, none⟩ = some (.int .u32 t165) := (blk_cell BK169.out 5).trans rfl
         have hcz96_6 : w67.cell? ⟨gb169, 6, none⟩ = some (.int .u32 t166) := (blk_cell BK169.out 6).trans rfl
         have hcz96_7 : w67.cell? ⟨gb169, 7, none⟩ = some (.int .u32 t167) := (blk_cell BK169.out 7).trans rfl
         have hfz96_0 := blk_frozen BK169.out 0
         have hfz96_1 := blk_frozen BK169.out 1
         have hfz96_2 := blk_frozen BK169.out 2
         have hfz96_3 := blk_frozen BK169.out 3
         have hfz96_4 := blk_frozen BK169.out 4
         have hfz96_5 := blk_frozen BK169.out 5
         have hfz96_6 := blk_frozen BK169.out 6
         have hfz96_7 := blk_frozen BK169.out 7
         go_wp2_with (first | (go_at_call 20; (with_reducible refine (arrearslaw03_same.calls t156 t157 t160 t161 t162 t163 t164 t165 t166 t167 true _ A78.out).mono ?_); rintro e w97 ⟨rfl, hb⟩; have n0_ := Aside0.mk (blk_below (wrf BK136.out) hb); have n1_ := Aside0.mk (blk_below (wrf BK137.out) hb); have n2_ := Aside0.mk (blk_below (wrf BK154.out) hb); have n3_ := Aside0.mk (blk_below (wrf BK155.out) hb); have n4_ := Aside0.mk (blk_below (wrf BK159.out) hb); have n5_ := Aside0.mk (blk_below (wrf BK169.out) hb); have n6_ := Aside0.mk (blk_below (wrf BK173.out) hb); have n7_ := Aside0.mk (blk_below (g := gb191) (o := .cells #[.int .u32 t182, .int .u32 t183, .int .u32 t184, .int .u32 t185, .int .u32 t186, .int .u32 t187, .int .u32 t188, .int .u32 t189] 46 (0, 0)) (by (with_reducible repeat (first | refine blk_drewN ?_ _ | refine blk_drew ?_ | refine blk_alloc ?_ _)); refine blk_put (cs := #[.int .u32 t182, .int .u32 t183, .int .u32 t184, .int .u32 t185, .int .u32 t186, .int .u32 t187, .int .u32 t188, .int .u32 0]) ?_ 7 _ rfl; (with_reducible repeat (first | refine blk_drewN ?_ _ | refine blk_drew ?_ | refine blk_alloc ?_ _)); refine blk_put (cs := #[.int .u32 t182, .int .u32 t183, .int .u32 t184, .int .u32 t185, .int .u32 t186, .int .u32 t187, .int .u32 0, .int .u32 0]) ?_ 6 _ rfl; (with_reducible repeat (first | refine blk_drewN ?_ _ | refine blk_drew ?_ | refine blk_alloc ?_ _)); refine blk_put (cs := #[.int .u32 t182, .int .u32 t183, .int .u32 t184, .int .u32 t185, .int .u32 t186, .int .u32 0, .int .u32 0, .int .u32 0]) ?_ 5 _ rfl; (with_reducible repeat (first | refine blk_drewN ?_ _ | refine blk_drew ?_ | refine blk_alloc ?_ _)); refine blk_put (cs := #[.int .u32 t182, .int .u32 t183, .int .u32 t184, .int .u32 t185, .int .u32 0, .int .u32 0, .int .u32 0, .int .u32 0]) ?_ 4 _ rfl; (with_reducible repeat (first | refine blk_drewN ?_ _ | refine blk_drew ?_ | refine blk_alloc ?_ _)); refine blk_put (cs := #[.int .u32 t182, .int .u32 t183, .int .u32 t184, .int .u32 0, .int .u32 0, .int .u32 0, .int .u32 0, .int .u32 0]) ?_ 3 _ rfl; (with_reducible repeat (first | refine blk_drewN ?_ _ | refine blk_drew ?_ | refine blk_alloc ?_ _)); refine blk_put (cs := #[.int .u32 t182, .int .u32 t183, .int .u32 0, .int .u32 0, .int .u32 0, .int .u32 0, .int .u32 0, .int .u32 0]) ?_ 2 _ rfl; (with_reducible repeat (first | refine blk_drewN ?_ _ | refine blk_drew ?_ | refine blk_alloc ?_ _)); refine blk_put (cs := #[.int .u32 t182, .int .u32 0, .int .u32 0, .int .u32 0, .int .u32 0, .int .u32 0, .int .u32 0, .int .u32 0]) ?_ 1 _ rfl; (with_reducible repeat (first | refine blk_drewN ?_ _ | refine blk_drew ?_ | refine blk_alloc ?_ _)); refine blk_put (cs := #[.int .u32 0, .int .u32 0, .int .u32 0, .int .u32 0, .int .u32 0, .int .u32 0, .int .u32 0, .int .u32 0]) ?_ 0 _ rfl; (with_reducible repeat (first | refine blk_drewN ?_ _ | refine blk_drew ?_ | refine blk_alloc ?_ _)); exact BK191.out) hb); have n8_ := Aside0.mk (below_step (wrs HB.out) hb); clear BK136; clear BK137; clear BK154; clear BK155; clear BK159; clear BK169; clear BK173; clear BK191; clear HB; have BK136 := n0_; have BK137 := n1_; have BK154 := n2_; have BK155 := n3_; have BK159 := n4_; have BK169 := n5_; have BK173 := n6_; have BK191 := n7_; have HB := n8_; clear n0_ n1_ n2_ n3_ n4_ n5_ n6_ n7_ n8_; (try clear hb); (try clear hb2); (try clear hk); (try clear hi); have hnb98 := NB173_136.out; have hnc98 := NB136_173.out; have hnb99 := NB173_137.out; have hnc99 := NB137_173.out; have hnb100 := NB173_154.out; have hnc100 := NB154_173.out; have hnb101 := NB173_155.out; have hnc101 := NB155_173.out; have hnb102 := NB173_191.out; have hnc102 := NB191_173.out; have hcz103_0 : w97.cell? ⟨gb173, 0, none⟩ = some (.int .u64 t170) := (blk_cell BK173.out 0).trans rfl; have hcz103_1 : w97.cell? ⟨gb173, 1, none⟩ = some (.int .u64 t171) := (blk_cell BK173.out 1).trans rfl; have hfz103_0 := blk_frozen BK173.out 0; have hfz103_1 := blk_frozen BK173.out 1; have hnb104 := NB191_136.out; have hnc104 := NB136_191.out; have hnb105 := NB191_137.out; have hnc105 := NB137_191.out; have hnb106 := NB191_154.out; have hnc106 := NB154_191.out; have hnb107 := NB191_155.out; have hnc107 := NB155_191.out; have hcz108_0 : w97.cell? ⟨gb191, 0, none⟩ = some (.int .u32 t182) := (blk_cell BK191.out 0).trans rfl; have hcz108_1 : w97.cell? ⟨gb191, 1, none⟩ = some (.int .u32 t183) := (blk_cell BK191.out 1).trans rfl; have hcz108_2 : w97.cell? ⟨gb191, 2, none⟩ = some (.int .u32 t184) := (blk_cell BK191.out 2).trans rfl; have hcz108_3 : w97.cell? ⟨gb191, 3, none⟩ = some (.int .u32 t185) := (blk_cell BK191.out 3).trans rfl; have hcz108_4 : w97.cell? ⟨gb191, 4, none⟩ = some (.int .u32 t186) := (blk_cell BK191.out 4).trans rfl; have hcz108_5 : w97.cell? ⟨gb191, 5, none⟩ = some (.int .u32 t187) := (blk_cell BK191.out 5).trans rfl; have hcz108_6 : w97.cell? ⟨gb191, 6, none⟩ = some (.int .u32 t188) := (blk_cell BK191.out 6).trans rfl; have hcz108_7 : w97.cell? ⟨gb191, 7, none⟩ = some (.int .u32 t189) := (blk_cell BK191.out 7).trans rfl; have hfz108_0 := blk_frozen BK191.out 0; have hfz108_1 := blk_frozen BK191.out 1; have hfz108_2 := blk_frozen BK191.out 2; have hfz108_3 := blk_frozen BK191.out 3; have hfz108_4 := blk_frozen BK191.out 4; have hfz108_5 := blk_frozen BK191.out 5; have hfz108_6 := blk_frozen BK191.out 6; have hfz108_7 := blk_frozen BK191.out 7) | (go_at_call 20; (with_reducible refine (arrearslaw03_same.calls t170 t171 t182 t183 t184 t185 t186 t187 t188 t189 true _ A80.out).mono ?_); rintro e w109 ⟨rfl, hb⟩; have n0_ := Aside0.mk (wrq BK136.out hb); have n1_ := Aside0.mk (wrq BK137.out hb); have n2_ := Aside0.mk (wrq BK154.out hb); have n3_ := Aside0.mk (wrq BK155.out hb); have n4_ := Aside0.mk (wrq BK159.out hb); have n5_ := Aside0.mk (wrq BK169.out hb); have n6_ := Aside0.mk (wrq BK173.out hb); have n7_ := Aside0.mk (wrq BK191.out hb); have n8_ := Aside0.mk (below_step (wrs HB.out) hb); clear BK136; clear BK137; clear BK154; clear BK155; clear BK159; clear BK169; clear BK173; clear BK191; clear HB; have BK136 := n0_; have BK137 := n1_; have BK154 := n2_; have BK155 := n3_; have BK159 := n4_; have BK169 := n5_; have BK173 := n6_; have BK191 := n7_; have HB := n8_; clear n0_ n1_ n2_ n3_ n4_ n5_ n6_ n7_ n8_; (try clear hb); (try clear hb2); (try clear hk); (try clear hi)))
         go_meet
         case rel => exact ⟨_, (false), (by first | rfl | (simp; done) | (simp [*]; done) | (exfalso; simp at *; omega)), H', ⟨by first | omega | exact Nat.le_refl _⟩, ⟨wrx BK136.out⟩, ⟨wrx BK137.out⟩, ⟨wrx BK154.out⟩, ⟨wrx BK155.out⟩, ⟨wrx BK159.out⟩, ⟨wrx BK169.out⟩, ⟨wrx BK173.out⟩, ⟨wrx BK191.out⟩, ⟨wrs HB.out⟩⟩
        ·
         replace c81 := Bool.eq_false_iff.mpr c81
         subst c81
         have H1 : (arrearslaw03_WideReckons.j0 k a0 a2 a4 true a0 a1 a2 a3 t138 t139 t140 t141 t142 t143 t144 t145 t146 t147 t148 t149 t150 t151 t152 t153) = some r := by rw [if_neg (show ¬ (false = true) by decide)] at H; exact H
         clear H
         have H := H1
         clear H1
         exact wrfalse H HR.out
       ·
        replace c79 := Bool.eq_false_iff.mpr c79
        subst c79
        have H1 : (arrearslaw03_WideReckons.j0 k a0 a2 a4 true a0 a1 a2 a3 t138 t139 t140 t141 t142 t143 t144 t145 t146 t147 t148 t149 t150 t151 t152 t153) = some r := by rw [if_neg (show ¬ (false = true) by decide)] at H; exact H
        clear H
        have H := H1
        clear H1
        exact wrfalse H HR.out
     ·
      rw [if_neg (show ¬ (some q193).isNone = true by simp)] at H
      have H1 := H
      clear H
      have H := H1
      clear H1
      try simp only [errW_none, errW_some]
      by_cases c154 : (false != t190) = true
      ·
       rw [if_pos c154] at H
       have c154b0 : (false != t190) = true := c154
       (try (have c154b1 : decide (false = t190) = false := by simpa using c154))
       (try (have c154b2 : (false == t190) = false := by simpa using c154))
       (try (have c154b3 : ¬ (false = t190) := by simpa using c154))
       clear c154
       exact wrfalse H HR.out
      ·
       rw [if_neg c154] at H
       have c154b0 : (false != t190) = false := by simpa using c154
       (try (have c154b1 : decide (false = t190) = true := by simpa using c154))
       (try (have c154b2 : (false == t190) = true := by simpa using c154))
       clear c154
       replace H := Option.bind_eq_some_iff.mp H
       obtain ⟨t196, A1550, H⟩ := H
       (try dsimp only at H)
       have A155 := Aside0.mk A1550
       clear A1550
       by_cases c156 : t196 = true
       ·
        subst c156
        have H1 : ((api_Code.f (some q193)).bind fun t197 => (arrearslaw03_WideReckons.j0 k a0 a2 a4 (t197 != 12) a0 a1 a2 a3 t138 t139 t140 t141 t142 t143 t144 t145 t146 t147 t148 t149 t150 t151 t152 t153)) = some r := by rw [if_pos rfl] at H; exact H
        clear H
        have H := H1
        clear H1
        replace H := Option.bind_eq_some_iff.mp H
        obtain ⟨t197, A1570, H⟩ := H
        replace H : (arrearslaw03_WideReckons.j0 k a0 a2 a4 (t197 != 12) a0 a1 a2 a3 t138 t139 t140 t141 t142 t143 t144 t145 t146 t147 t148 t149 t150 t151 t152 t153) = some r := H
        have A157 := Aside0.mk A1570
        clear A1570
        have H' := Aside0.mk H
        clear H
        have hnb158 := NB159_136.out
        have hnc158 := NB136_159.out
        have hnb159 := NB159_137.out
        have hnc159 := NB137_159.out
        have hnb160 := NB159_154.out
        have hnc160 := NB154_159.out
        have hnb161 := NB159_155.out
        have hnc161 := NB155_159.out
        have hnb162 := NB159_169.out
        have hnc162 := NB169_159.out
        have hnb163 := NB159_173.out
        have hnc163 := NB173_159.out
        have hnb164 := NB159_191.out
        have hnc164 := NB191_159.out
        have hcz165_0 : w67.cell? ⟨gb159, 0, none⟩ = some (.int .u64 t156) := (blk_cell BK159.out 0).trans rfl
        have hcz165_1 : w67.cell? ⟨gb159, 1, none⟩ = some (.int .u64 t157) := (blk_cell BK159.out 1).trans rfl
        have hfz165_0 := blk_frozen BK159.out 0
        have hfz165_1 := blk_frozen BK159.out 1
        have hnb166 := NB169_136.out
        have hnc166 := NB136_169.out
        have hnb167 := NB169_137.out
        have hnc167 := NB137_169.out
        have hnb168 := NB169_154.out
        have hnc168 := NB154_169.out
        have hnb169 := NB169_155.out
        have hnc169 := NB155_169.out
        have hnb170 := NB169_173.out
        have hnc170 := NB173_169.out
        have hnb171 := NB169_191.out
        have hnc171 := NB191_169.out
        have hcz172_0 : w67.cell? ⟨gb169, 0, none⟩ = some (.int .u32 t160) := (blk_cell BK169.out 0).trans rfl
        have hcz172_1 : w67.cell? ⟨gb169, 1, none⟩ = some (.int .u32 t161) := (blk_cell BK169.out 1).trans rfl
        have hcz172_2 : w67.cell? ⟨gb169, 2, none⟩ = some (.int .u32 t162) := (blk_cell BK169.out 2).trans rfl
        have hcz172_3 : w67.cell? ⟨gb169, 3, none⟩ = some (.int .u32 t163) := (blk_cell BK169.out 3).trans rfl
        have hcz172_4 : w67.cell? ⟨gb169, 4, none⟩ = some (.int .u32 t164) := (blk_cell BK169.out 4).trans rfl
        have hcz172_5 : w67.cell? ⟨gb169, 5, none⟩ = some (.int .u32 t165) := (blk_cell BK169.out 5).trans rfl
        have hcz172_6 : w67.cell? ⟨gb169, 6, none⟩ = some (.int .u32 t166) := (blk_cell BK169.out 6).trans rfl
        have hcz172_7 : w67.cell? ⟨gb169, 7, none⟩ = some (.int .u32 t167) := (blk_cell BK169.out 7).trans rfl
        have hfz172_0 := blk_frozen BK169.out 0
        have hfz172_1 := blk_frozen BK169.out 1
        have hfz172_2 := blk_frozen BK169.out 2
        have hfz172_3 := blk_frozen BK169.out 3
        have hfz172_4 := blk_frozen BK169.out 4
        have hfz172_5 := blk_frozen BK169.out 5
        have hfz172_6 := blk_frozen BK169.out 6
        have hfz172_7 := blk_frozen BK169.out 7
        go_wp2_with (first | (go_at_call 20; (with_reducible refine (arrearslaw03_same.calls t156 t157 t160 t161 t162 t163 t164 t165 t166 t167 true _ A155.out).mono ?_); rintro e w173 ⟨rfl, hb⟩; have n0_ := Aside0.mk (blk_below (wrf BK136.out) hb); have n1_ := Aside0.mk (blk_below (wrf BK137.out) hb); have n2_ := Aside0.mk (blk_below (wrf BK154.out) hb); have n3_ := Aside0.mk (blk_below (wrf BK155.out) hb); have n4_ := Aside0.mk (blk_below (wrf BK159.out) hb); have n5_ := Aside0.mk (blk_below (wrf BK169.out) hb); have n6_ := Aside0.mk (blk_below (wrf BK173.out) hb); have n7_ := Aside0.mk (blk_below (g := gb191) (o := .cells #[.int .u32 t182, .int .u32 t183, .int .u32 t184, .int .u32 t185, .int .u32 t186, .int .u32 t187, .int .u32 t188, .int .u32 t189] 46 (0, 0)) (by (with_reducible repeat (first | refine blk_drewN ?_ _ | refine blk_drew ?_ | refine blk_alloc ?_ _)); refine blk_put (cs := #[.int .u32 t182, .int .u32 t183, .int .u32 t184, .int .u32 t185, .int .u32 t186, .int .u32 t187, .int .u32 t188, .int .u32 0]) ?_ 7 _ rfl; (with_reducible repeat (first | refine blk_drewN ?_ _ | refine blk_drew ?_ | refine blk_alloc ?_ _)); refine blk_put (cs := #[.int .u32 t182, .int .u32 t183, .int .u32 t184, .int .u32 t185, .int .u32 t186, .int .u32 t187, .int .u32 0, .int .u32 0]) ?_ 6 _ rfl; (with_reducible repeat (first | refine blk_drewN ?_ _ | refine blk_drew ?_ | refine blk_alloc ?_ _)); refine blk_put (cs := #[.int .u32 t182, .int .u32 t183, .int .u32 t184, .int .u32 t185, .int .u32 t186, .int .u32 0, .int .u32 0, .int .u32 0]) ?_ 5 _ rfl; (with_reducible repeat (first | refine blk_drewN ?_ _ | refine blk_drew ?_ | refine blk_alloc ?_ _)); refine blk_put (cs := #[.int .u32 t182, .int .u32 t183, .int .u32 t184, .int .u32 t185, .int .u32 0, .int .u32 0, .int .u32 0, .int .u32 0]) ?_ 4 _ rfl; (with_reducible repeat (first | refine blk_drewN ?_ _ | refine blk_drew ?_ | refine blk_alloc ?_ _)); refine blk_put (cs := #[.int .u32 t182, .int .u32 t183, .int .u32 t184, .int .u32 0, .int .u32 0, .int .u32 0, .int .u32 0, .int .u32 0]) ?_ 3 _ rfl; (with_reducible repeat (first | refine blk_drewN ?_ _ | refine blk_drew ?_ | refine blk_alloc ?_ _)); refine blk_put (cs := #[.int .u32 t182, .int .u32 t183, .int .u32 0, .int .u32 0, .int .u32 0, .int .u32 0, .int .u32 0, .int .u32 0]) ?_ 2 _ rfl; (with_reducible repeat (first | refine blk_drewN ?_ _ | refine blk_drew ?_ | refine blk_alloc ?_ _)); refine blk_put (cs := #[.int .u32 t182, .int .u32 0, .int .u32 0, .int .u32 0, .int .u32 0, .int .u32 0, .int .u32 0, .int .u32 0]) ?_ 1 _ rfl; (with_reducible repeat (first | refine blk_drewN ?_ _ | refine blk_drew ?_ | refine blk_alloc ?_ _)); refine blk_put (cs := #[.int .u32 0, .int .u32 0, .int .u32 0, .int .u32 0, .int .u32 0, .int .u32 0, .int .u32 0, .int .u32 0]) ?_ 0 _ rfl; (with_reducible repeat (first | refine blk_drewN ?_ _ | refine blk_drew ?_ | refine blk_alloc ?_ _)); exact BK191.out) hb); have n8_ := Aside0.mk (below_step (wrs HB.out) hb); clear BK136; clear BK137; clear BK154; clear BK155; clear BK159; clear BK169; clear BK173; clear BK191; clear HB; have BK136 := n0_; have BK137 := n1_; have BK154 := n2_; have BK155 := n3_; have BK159 := n4_; have BK169 := n5_; have BK173 := n6_; have BK191 := n7_; have HB := n8_; clear n0_ n1_ n2_ n3_ n4_ n5_ n6_ n7_ n8_; (try clear hb); (try clear hb2); (try clear hk); (try clear hi); have CA157 := fun W (hGW : Go.Proofs.YtfpbibfoipbahaaDoor.M.Laid W) => api_Code.calls (some q193) t197 W hGW A157.out; try simp only [errW_none, errW_some] at CA157) | (go_at_call 11; (with_reducible refine (CA157 _ ?hGL).mono ?_); (case hGL => exact Go.Proofs.YtfpbibfoipbahaaDoor.M.Laid.below HG.out (wrs HB.out)); rintro e w174 ⟨rfl, hb⟩; have n0_ := Aside0.mk (wrq BK136.out hb); have n1_ := Aside0.mk (wrq BK137.out hb); have n2_ := Aside0.mk (wrq BK154.out hb); have n3_ := Aside0.mk (wrq BK155.out hb); have n4_ := Aside0.mk (wrq BK159.out hb); have n5_ := Aside0.mk (wrq BK169.out hb); have n6_ := Aside0.mk (wrq BK173.out hb); have n7_ := Aside0.mk (wrq BK191.out hb); have n8_ := Aside0.mk (below_step (wrs HB.out) hb); clear BK136; clear BK137; clear BK154; clear BK155; clear BK159; clear BK169; clear BK173; clear BK191; clear HB; have BK136 := n0_; have BK137 := n1_; have BK154 := n2_; have BK155 := n3_; have BK159 := n4_; have BK169 := n5_; have BK173 := n6_; have BK191 := n7_; have HB := n8_; clear n0_ n1_ n2_ n3_ n4_ n5_ n6_ n7_ n8_; (try clear hb); (try clear hb2); (try clear hk); (try clear hi)))
        go_meet
        case rel => exact ⟨_, ((t197 != 12)), (by first | rfl | (simp; done) | (simp [*]; done) | (exfalso; simp at *; omega)), H', ⟨by first | omega | exact Nat.le_refl _⟩, ⟨wrx BK136.out⟩, ⟨wrx BK137.out⟩, ⟨wrx BK154.out⟩, ⟨wrx BK155.out⟩, ⟨wrx BK159.out⟩, ⟨wrx BK169.out⟩, ⟨wrx BK173.out⟩, ⟨wrx BK191.out⟩, ⟨wrs HB.out⟩⟩
       ·
        replace c156 := Bool.eq_false_iff.mpr c156
        subst c156
        have H1 : (arrearslaw03_WideReckons.j0 k a0 a2 a4 true a0 a1 a2 a3 t138 t139 t140 t141 t142 t143 t144 t145 t146 t147 t148 t149 t150 t151 t152 t153) = some r := by rw [if_neg (show ¬ (false = true) by decide)] at H; exact H
        clear H
        have H := H1
        clear H1
        exact wrfalse H HR.out
   ·
    rw [if_neg (show ¬ (some q192).isNone = true by simp)] at H
    have H1 := H
    clear H
    have H := H1
    clear H1
    try simp only [errW_none, errW_some]
    by_cases c191 : (false != t168) = true
    ·
     rw [if_pos c191] at H
     have c191b0 : (false != t168) = true := c191
     (try (have c191b1 : decide (false = t168) = false := by simpa using c191))
     (try (have c191b2 : (false == t168) = false := by simpa using c191))
     (try (have c191b3 : ¬ (false = t168) := by simpa using c191))
     clear c191
     exact wrfalse H HR.out
    ·
     rw [if_neg c191] at H
     have c191b0 : (false != t168) = false := by simpa using c191
     (try (have c191b1 : decide (false = t168) = true := by simpa using c191))
     (try (have c191b2 : (false == t168) = true := by simpa using c191))
     clear c191
     rcases t172 with _ | q198
     ·
      rw [if_pos (show (none : Option Int).isNone = true by rfl)] at H
      have H1 := H
      clear H
      have H := H1
      clear H1
      try simp only [errW_none, errW_some]
      by_cases c192 : (true != t190) = true
      ·
       rw [if_pos c192] at H
       have c192b0 : (true != t190) = true := c192
       (try (have c192b1 : decide (true = t190) = false := by simpa using c192))
       (try (have c192b2 : (true == t190) = false := by simpa using c192))
       (try (have c192b3 : ¬ (true = t190) := by simpa using c192))
       clear c192
       exact wrfalse H HR.out
      ·
       rw [if_neg c192] at H
       have c192b0 : (true != t190) = false := by simpa using c192
       (try (have c192b1 : decide (true = t190) = true := by simpa using c192))
       (try (have c192b2 : (true == t190) = true := by simpa using c192))
       clear c192
       replace H := Option.bind_eq_some_iff.mp H
       obtain ⟨t199, A1930, H⟩ := H
       (try dsimp only at H)
       have A193 := Aside0.mk A1930
       clear A1930
       by_cases c194 : t199 = true
       ·
        subst c194
        rw [if_pos rfl] at H
        have H1 := H
        clear H
        have H := H1
        clear H1
        replace H := Option.bind_eq_some_iff.mp H
        obtain ⟨t200, A1950, H⟩ := H
        (try dsimp only at H)
        have A195 := Aside0.mk A1950
        clear A1950
        by_cases c196 : t200 = 12
        ·
         rw [if_pos c196] at H
         have c196b0 : (t200 == 12) = true := beq_iff_eq.mpr c196
         have c196b1 : (t200 != 12) = false := bne_eq_false_iff_eq.mpr c196
         clear c196
         by_cases c197 : (!(t156 == 0) || (!(t157 == 0))) = true
         ·
          rw [if_pos c197] at H
          have c197b0 : (!(t156 == 0) || (!(t157 == 0))) = true := c197
          clear c197
          exact wrfalse H HR.out
         ·
          rw [if_neg c197] at H
          have c197b0 : (!(t156 == 0) || (!(t157 == 0))) = false := by simpa using c197
          clear c197
          have H' := Aside0.mk H
          clear H
          have hnb221 := NB173_136.out
          have hnc221 := NB136_173.out
          have hnb222 := NB173_137.out
          have hnc222 := NB137_173.out
          have hnb223 := NB173_154.out
          have hnc223 := NB154_173.out
          have hnb224 := NB173_155.out
          have hnc224 := NB155_173.out
          have hnb225 := NB173_159.out
          have hnc225 := NB159_173.out
          have hnb226 := NB173_169.out
          have hnc226 := NB169_173.out
          have hnb227 := NB173_191.out
          have hnc227 := NB191_173.out
          have hcz228_0 : w67.cell? ⟨gb173, 0, none⟩ = some (.int .u64 t170) := (blk_cell BK173.out 0).trans rfl
          have hcz228_1 : w67.cell? ⟨gb173, 1, none⟩ = some (.int .u64 t171) := (blk_cell BK173.out 1).trans rfl
          have hfz228_0 := blk_frozen BK173.out 0
          have hfz228_1 := blk_frozen BK173.out 1
          have hnb229 := NB191_136.out
          have hnc229 := NB136_191.out
          have hnb230 := NB191_137.out
          have hnc230 := NB137_191.out
          have hnb231 := NB191_154.out
          have hnc231 := NB154_191.out
          have hnb232 := NB191_155.out
          have hnc232 := NB155_191.out
          have hnb233 := NB191_159.out
          have hnc233 := NB159_191.out
          have hnb234 := NB191_169.out
          have hnc234 := NB169_191.out
          have hcz235_0 : w67.cell? ⟨gb191, 0, none⟩ = some (.int .u32 0) := (blk_cell BK191.out 0).trans rfl
          have hcz235_1 : w67.cell? ⟨gb191, 1, none⟩ = some (.int .u32 0) := (blk_cell BK191.out 1).trans rfl
          have hcz235_2 : w67.cell? ⟨gb191, 2, none⟩ = some (.int .u32 0) := (blk_cell BK191.out 2).trans rfl
          have hcz235_3 : w67.cell? ⟨gb191, 3, none⟩ = some (.int .u32 0) := (blk_cell BK191.out 3).trans rfl
          have hcz235_4 : w67.cell? ⟨gb191, 4, none⟩ = some (.int .u32 0) := (blk_cell BK191.out 4).trans rfl
          have hcz235_5 : w67.cell? ⟨gb191, 5, none⟩ = some (.int .u32 0) := (blk_cell BK191.out 5).trans rfl
          have hcz235_6 : w67.cell? ⟨gb191, 6, none⟩ = some (.int .u32 0) := (blk_cell BK191.out 6).trans rfl
          have hcz235_7 : w67.cell? ⟨gb191, 7, none⟩ = some (.int .u32 0) := (blk_cell BK191.out 7).trans rfl
          have hfz235_0 := blk_frozen BK191.out 0
          have hfz235_1 := blk_frozen BK191.out 1
          have hfz235_2 := blk_frozen BK191.out 2
          have hfz235_3 := blk_frozen BK191.out 3
          have hfz235_4 := blk_frozen BK191.out 4
          have hfz235_5 := blk_frozen BK191.out 5
          have hfz235_6 := blk_frozen BK191.out 6
          have hfz235_7 := blk_frozen BK191.out 7
          go_wp2_with (first | (go_at_call 20; (with_reducible refine (arrearslaw03_same.calls t170 t171 t182 t183 t184 t185 t186 t187 t188 t189 true _ A193.out).mono ?_); rintro e w236 ⟨rfl, hb⟩; have n0_ := Aside0.mk (blk_below (wrf BK136.out) hb); have n1_ := Aside0.mk (blk_below (wrf BK137.out) hb); have n2_ := Aside0.mk (blk_below (wrf BK154.out) hb); have n3_ := Aside0.mk (blk_below (wrf BK155.out) hb); have n4_ := Aside0.mk (blk_below (wrf BK159.out) hb); have n5_ := Aside0.mk (blk_below (wrf BK169.out) hb); have n6_ := Aside0.mk (blk_below (wrf BK173.out) hb); have n7_ := Aside0.mk (blk_below (g := gb191) (o := .cells #[.int .u32 t182, .int .u32 t183, .int .u32 t184, .int .u32 t185, .int .u32 t186, .int .u32 t187, .int .u32 t188, .int .u32 t189] 46 (0, 0)) (by (with_reducible repeat (first | refine blk_drewN ?_ _ | refine blk_drew ?_ | refine blk_alloc ?_ _)); refine blk_put (cs := #[.int .u32 t182, .int .u32 t183, .int .u32 t184, .int .u32 t185, .int .u32 t186, .int .u32 t187, .int .u32 t188, .int .u32 0]) ?_ 7 _ rfl; (with_reducible repeat (first | refine blk_drewN ?_ _ | refine blk_drew ?_ | refine blk_alloc ?_ _)); refine blk_put (cs := #[.int .u32 t182, .int .u32 t183, .int .u32 t184, .int .u32 t185, .int .u32 t186, .int .u32 t187, .int .u32 0, .int .u32 0]) ?_ 6 _ rfl; (with_reducible repeat (first | refine blk_drewN ?_ _ | refine blk_drew ?_ | refine blk_alloc ?_ _)); refine blk_put (cs := #[.int .u32 t182, .int .u32 t183, .int .u32 t184, .int .u32 t185, .int .u32 t186, .int .u32 0, .int .u32 0, .int .u32 0]) ?_ 5 _ rfl; (with_reducible repeat (first | refine blk_drewN ?_ _ | refine blk_drew ?_ | refine blk_alloc ?_ _)); refine blk_put (cs := #[.int .u32 t182, .int .u32 t183, .int .u32 t184, .int .u32 t185, .int .u32 0, .int .u32 0, .int .u32 0, .int .u32 0]) ?_ 4 _ rfl; (with_reducible repeat (first | refine blk_drewN ?_ _ | refine blk_drew ?_ | refine blk_alloc ?_ _)); refine blk_put (cs := #[.int .u32 t182, .int .u32 t183, .int .u32 t184, .int .u32 0, .int .u32 0, .int .u32 0, .int .u32 0, .int .u32 0]) ?_ 3 _ rfl; (with_reducible repeat (first | refine blk_drewN ?_ _ | refine blk_drew ?_ | refine blk_alloc ?_ _)); refine blk_put (cs := #[.int .u32 t182, .int .u32 t183, .int .u32 0, .int .u32 0, .int .u32 0, .int .u32 0, .int .u32 0, .int .u32 0]) ?_ 2 _ rfl; (with_reducible repeat (first | refine blk_drewN ?_ _ | refine blk_drew ?_ | refine blk_alloc ?_ _)); refine blk_put (cs := #[.int .u32 t182, .int .u32 0, .int .u32 0, .int .u32 0, .int .u32 0, .int .u32 0, .int .u32 0, .int .u32 0]) ?_ 1 _ rfl; (with_reducible repeat (first | refine blk_drewN ?_ _ | refine blk_drew ?_ | refine blk_alloc ?_ _)); refine blk_put (cs := #[.int .u32 0, .int .u32 0, .int .u32 0, .int .u32 0, .int .u32 0, .int .u32 0, .int .u32 0, .int .u32 0]) ?_ 0 _ rfl; (with_reducible repeat (first | refine blk_drewN ?_ _ | refine blk_drew ?_ | refine blk_alloc ?_ _)); exact BK191.out) hb); have n8_ := Aside0.mk (below_step (wrs HB.out) hb); clear BK136; clear BK137; clear BK154; clear BK155; clear BK159; clear BK169; clear BK173; clear BK191; clear HB; have BK136 := n0_; have BK137 := n1_; have BK154 := n2_; have BK155 := n3_; have BK159 := n4_; have BK169 := n5_; have BK173 := n6_; have BK191 := n7_; have HB := n8_; clear n0_ n1_ n2_ n3_ n4_ n5_ n6_ n7_ n8_; (try clear hb); (try clear hb2); (try clear hk); (try clear hi); have CA195 := fun W (hGW : Go.Proofs.YtfpbibfoipbahaaDoor.M.Laid W) => api_Code.calls (some q192) t200 W hGW A195.out; try simp only [errW_none, errW_some] at CA195) | (go_at_call 11; (with_reducible refine (CA195 _ ?hGL).mono ?_); (case hGL => exact Go.Proofs.YtfpbibfoipbahaaDoor.M.Laid.below HG.out (wrs HB.out)); rintro e w237 ⟨rfl, hb⟩; have n0_ := Aside0.mk (wrq BK136.out hb); have n1_ := Aside0.mk (wrq BK137.out hb); have n2_ := Aside0.mk (wrq BK154.out hb); have n3_ := Aside0.mk (wrq BK155.out hb); have n4_ := Aside0.mk (wrq BK159.out hb); have n5_ := Aside0.mk (wrq BK169.out hb); have n6_ := Aside0.mk (wrq BK173.out hb); have n7_ := Aside0.mk (wrq BK191.out hb); have n8_ := Aside0.mk (below_step (wrs HB.out) hb); clear BK136; clear BK137; clear BK154; clear BK155; clear BK159; clear BK169; clear BK173; clear BK191; clear HB; have BK136 := n0_; have BK137 := n1_; have BK154 := n2_; have BK155 := n3_; have BK159 := n4_; have BK169 := n5_; have BK173 := n6_; have BK191 := n7_; have HB := n8_; clear n0_ n1_ n2_ n3_ n4_ n5_ n6_ n7_ n8_; (try clear hb); (try clear hb2); (try clear hk); (try clear hi); have hnb238 := NB159_136.out; have hnc238 := NB136_159.out; have hnb239 := NB159_137.out; have hnc239 := NB137_159.out; have hnb240 := NB159_154.out; have hnc240 := NB154_159.out; have hnb241 := NB159_155.out; have hnc241 := NB155_159.out; have hnb242 := NB159_169.out; have hnc242 := NB169_159.out; have hcz243_0 : w237.cell? ⟨gb159, 0, none⟩ = some (.int .u64 t156) := (blk_cell BK159.out 0).trans rfl; have hcz243_1 : w237.cell? ⟨gb159, 1, none⟩ = some (.int .u64 t157) := (blk_cell BK159.out 1).trans rfl; have hfz243_0 := blk_frozen BK159.out 0; have hfz243_1 := blk_frozen BK159.out 1))
          go_meet
          case rel => exact ⟨_, (false), (by first | rfl | (simp; done) | (simp [*]; done) | (exfalso; simp at *; omega)), H', ⟨by first | omega | exact Nat.le_refl _⟩, ⟨wrx BK136.out⟩, ⟨wrx BK137.out⟩, ⟨wrx BK154.out⟩, ⟨wrx BK155.out⟩, ⟨wrx BK159.out⟩, ⟨wrx BK169.out⟩, ⟨wrx BK173.out⟩, ⟨wrx BK191.out⟩, ⟨wrs HB.out⟩⟩
        ·
         rw [if_neg c196] at H
         have c196b0 : (t200 == 12) = false := beq_eq_false_iff_ne.mpr c196
         have c196b1 : (t200 != 12) = true := bne_iff_ne.mpr c196
         exact wrfalse H HR.out
       ·
        replace c194 := Bool.eq_false_iff.mpr c194
        subst c194
        have H1 : (arrearslaw03_WideReckons.j0 k a0 a2 a4 true a0 a1 a2 a3 t138 t139 t140 t141 t142 t143 t144 t145 t146 t147 t148 t149 t150 t151 t152 t153) = some r := by rw [if_neg (show ¬ (false = true) by decide)] at H; exact H
        clear H
        have H := H1
        clear H1
        exact wrfalse H HR.out
     ·
      rw [if_neg (show ¬ (some q198).isNone = true by simp)] at H
      have H1 := H
      clear H
      have H := H1
      clear H1
      try simp only [errW_none, errW_some]
      by_cases c277 : (false != t190) = true
      ·
       rw [if_pos c277] at H
       have c277b0 : (false != t190) = true := c277
       (try (have c277b1 : decide (false = t190) = false := by simpa using c277))
       (try (have c277b2 : (false == t190) = false := by simpa using c277))
       (try (have c277b3 : ¬ (false = t190) := by simpa using c277))
       clear c277
       exact wrfalse H HR.out
      ·
       rw [if_neg c277] at H
       have c277b0 : (false != t190) = false := by simpa using c277
       (try (have c277b1 : decide (false = t190) = true := by simpa using c277))
       (try (have c277b2 : (false == t190) = true := by simpa using c277))
       clear c277
       replace H := Option.bind_eq_some_iff.mp H
       obtain ⟨t201, A2780, H⟩ := H
       (try dsimp only at H)
       have A278 := Aside0.mk A2780
       clear A2780
       by_cases c279 : t201 = 12
       ·
        rw [if_pos c279] at H
        have c279b0 : (t201 == 12) = true := beq_iff_eq.mpr c279
        have c279b1 : (t201 != 12) = false := bne_eq_false_iff_eq.mpr c279
        clear c279
        by_cases c280 : (!(t156 == 0) || (!(t157 == 0))) = true
        ·
         rw [if_pos c280] at H
         have c280b0 : (!(t156 == 0) || (!(t157 == 0))) = true := c280
         clear c280
         exact wrfalse H HR.out
        ·
         rw [if_neg c280] at H
         have c280b0 : (!(t156 == 0) || (!(t157 == 0))) = false := by simpa using c280
         clear c280
         replace H := Option.bind_eq_some_iff.mp H
         obtain ⟨t202, A2900, H⟩ := H
         replace H : (arrearslaw03_WideReckons.j0 k a0 a2 a4 (t202 != 12) a0 a1 a2 a3 t138 t139 t140 t141 t142 t143 t144 t145 t146 t147 t148 t149 t150 t151 t152 t153) = some r := H
         have A290 := Aside0.mk A2900
         clear A2900
         have H' := Aside0.mk H
         clear H
         have CA278 := fun W (hGW : Go.Proofs.YtfpbibfoipbahaaDoor.M.Laid W) => api_Code.calls (some q192) t201 W hGW A278.out
         try simp only [errW_none, errW_some] at CA278
         go_wp2_with (first | (go_at_call 11; (with_reducible refine (CA278 _ ?hGL).mono ?_); (case hGL => exact Go.Proofs.YtfpbibfoipbahaaDoor.M.Laid.below HG.out (wrs HB.out)); rintro e w291 ⟨rfl, hb⟩; have n0_ := Aside0.mk (blk_below (wrf BK136.out) hb); have n1_ := Aside0.mk (blk_below (wrf BK137.out) hb); have n2_ := Aside0.mk (blk_below (wrf BK154.out) hb); have n3_ := Aside0.mk (blk_below (wrf BK155.out) hb); have n4_ := Aside0.mk (blk_below (wrf BK159.out) hb); have n5_ := Aside0.mk (blk_below (wrf BK169.out) hb); have n6_ := Aside0.mk (blk_below (wrf BK173.out) hb); have n7_ := Aside0.mk (blk_below (g := gb191) (o := .cells #[.int .u32 t182, .int .u32 t183, .int .u32 t184, .int .u32 t185, .int .u32 t186, .int .u32 t187, .int .u32 t188, .int .u32 t189] 46 (0, 0)) (by (with_reducible repeat (first | refine blk_drewN ?_ _ | refine blk_drew ?_ | refine blk_alloc ?_ _)); refine blk_put (cs := #[.int .u32 t182, .int .u32 t183, .int .u32 t184, .int .u32 t185, .int .u32 t186, .int .u32 t187, .int .u32 t188, .int .u32 0]) ?_ 7 _ rfl; (with_reducible repeat (first | refine blk_drewN ?_ _ | refine blk_drew ?_ | refine blk_alloc ?_ _)); refine blk_put (cs := #[.int .u32 t182, .int .u32 t183, .int .u32 t184, .int .u32 t185, .int .u32 t186, .int .u32 t187, .int .u32 0, .int .u32 0]) ?_ 6 _ rfl; (with_reducible repeat (first | refine blk_drewN ?_ _ | refine blk_drew ?_ | refine blk_alloc ?_ _)); refine blk_put (cs := #[.int .u32 t182, .int .u32 t183, .int .u32 t184, .int .u32 t185, .int .u32 t186, .int .u32 0, .int .u32 0, .int .u32 0]) ?_ 5 _ rfl; (with_reducible repeat (first | refine blk_drewN ?_ _ | refine blk_drew ?_ | refine blk_alloc ?_ _)); refine blk_put (cs := #[.int .u32 t182, .int .u32 t183, .int .u32 t184, .int .u32 t185, .int .u32 0, .int .u32 0, .int .u32 0, .int .u32 0]) ?_ 4 _ rfl; (with_reducible repeat (first | refine blk_drewN ?_ _ | refine blk_drew ?_ | refine blk_alloc ?_ _)); refine blk_put (cs := #[.int .u32 t182, .int .u32 t183, .int .u32 t184, .int .u32 0, .int .u32 0, .int .u32 0, .int .u32 0, .int .u32 0]) ?_ 3 _ rfl; (with_reducible repeat (first | refine blk_drewN ?_ _ | refine blk_drew ?_ | refine blk_alloc ?_ _)); refine blk_put (cs := #[.int .u32 t182, .int .u32 t183, .int .u32 0, .int .u32 0, .int .u32 0, .int .u32 0, .int .u32 0, .int .u32 0]) ?_ 2 _ rfl; (with_reducible repeat (first | refine blk_drewN ?_ _ | refine blk_drew ?_ | refine blk_alloc ?_ _)); refine blk_put (cs := #[.int .u32 t182, .int .u32 0, .int .u32 0, .int .u32 0, .int .u32 0, .int .u32 0, .int .u32 0, .int .u32 0]) ?_ 1 _ rfl; (with_reducible repeat (first | refine blk_drewN ?_ _ | refine blk_drew ?_ | refine blk_alloc ?_ _)); refine blk_put (cs := #[.int .u32 0, .int .u32 0, .int .u32 0, .int .u32 0, .int .u32 0, .int .u32 0, .int .u32 0, .int .u32 0]) ?_ 0 _ rfl; (with_reducible repeat (first | refine blk_drewN ?_ _ | refine blk_drew ?_ | refine blk_alloc ?_ _)); exact BK191.out) hb); have n8_ := Aside0.mk (below_step (wrs HB.out) hb); clear BK136; clear BK137; clear BK154; clear BK155; clear BK159; clear BK169; clear BK173; clear BK191; clear HB; have BK136 := n0_; have BK137 := n1_; have BK154 := n2_; have BK155 := n3_; have BK159 := n4_; have BK169 := n5_; have BK173 := n6_; have BK191 := n7_; have HB := n8_; clear n0_ n1_ n2_ n3_ n4_ n5_ n6_ n7_ n8_; (try clear hb); (try clear hb2); (try clear hk); (try clear hi); have hnb292 := NB159_136.out; have hnc292 := NB136_159.out; have hnb293 := NB159_137.out; have hnc293 := NB137_159.out; have hnb294 := NB159_154.out; have hnc294 := NB154_159.out; have hnb295 := NB159_155.out; have hnc295 := NB155_159.out; have hnb296 := NB159_169.out; have hnc296 := NB169_159.out; have hnb297 := NB159_173.out; have hnc297 := NB173_159.out; have hnb298 := NB159_191.out; have hnc298 := NB191_159.out; have hcz299_0 : w291.cell? ⟨gb159, 0, none⟩ = some (.int .u64 t156) := (blk_cell BK159.out 0).trans rfl; have hcz299_1 : w291.cell? ⟨gb159, 1, none⟩ = some (.int .u64 t157) := (blk_cell BK159.out 1).trans rfl; have hfz299_0 := blk_frozen BK159.out 0; have hfz299_1 := blk_frozen BK159.out 1; have CA290 := fun W (hGW : Go.Proofs.YtfpbibfoipbahaaDoor.M.Laid W) => api_Code.calls (some q198) t202 W hGW A290.out; try simp only [errW_none, errW_some] at CA290) | (go_at_call 11; (with_reducible refine (CA290 _ ?hGL).mono ?_); (case hGL => exact Go.Proofs.YtfpbibfoipbahaaDoor.M.Laid.below HG.out (wrs HB.out)); rintro e w300 ⟨rfl, hb⟩; have n0_ := Aside0.mk (wrq BK136.out hb); have n1_ := Aside0.mk (wrq BK137.out hb); have n2_ := Aside0.mk (wrq BK154.out hb); have n3_ := Aside0.mk (wrq BK155.out hb); have n4_ := Aside0.mk (wrq BK159.out hb); have n5_ := Aside0.mk (wrq BK169.out hb); have n6_ := Aside0.mk (wrq BK173.out hb); have n7_ := Aside0.mk (wrq BK191.out hb); have n8_ := Aside0.mk (below_step (wrs HB.out) hb); clear BK136; clear BK137; clear BK154; clear BK155; clear BK159; clear BK169; clear BK173; clear BK191; clear HB; have BK136 := n0_; have BK137 := n1_; have BK154 := n2_; have BK155 := n3_; have BK159 := n4_; have BK169 := n5_; have BK173 := n6_; have BK191 := n7_; have HB := n8_; clear n0_ n1_ n2_ n3_ n4_ n5_ n6_ n7_ n8_; (try clear hb); (try clear hb2); (try clear hk); (try clear hi)))
         go_meet
         case rel => exact ⟨_, ((t202 != 12)), (by first | rfl | (simp; done) | (simp [*]; done) | (exfalso; simp at *; omega)), H', ⟨by first | omega | exact Nat.le_refl _⟩, ⟨wrx BK136.out⟩, ⟨wrx BK137.out⟩, ⟨wrx BK154.out⟩, ⟨wrx BK155.out⟩, ⟨wrx BK159.out⟩, ⟨wrx BK169.out⟩, ⟨wrx BK173.out⟩, ⟨wrx BK191.out⟩, ⟨wrs HB.out⟩⟩
       ·
        rw [if_neg c279] at H
        have c279b0 : (t201 == 12) = false := beq_eq_false_iff_ne.mpr c279
        have c279b1 : (t201 != 12) = true := bne_iff_ne.mpr c279
        exact wrfalse H HR.out
  case rest =>
   clear HC15
   try clear c1
   try clear q1
   try clear c2
   try clear p2
   try clear c7
   try clear c11
   try clear c12
   try clear c13
   try clear c14
   try clear c15
   try clear c16
   try clear c17
   try clear c18
   try clear c19
   try clear q19
   try clear c20
   try clear c21
   try clear c22
   try clear c23
   try clear c24
   try clear c25
   try clear c26
   try clear c27
   try clear c28
   try clear c29
   try clear c79
   try clear c114
   try clear c115
   try clear c116
   try clear c118
   try clear c119
   try clear c120
   try clear c121
   try clear c122
   try clear c123
   try clear c126
   try clear c127
   try clear c128
   try clear c129
   try clear c130
   try clear c132
   try clear c133
   try clear c134
   try clear c135
   try clear c138
   try clear c139
   try clear c140
   try clear c141
   try clear c142
   try clear c143
   try clear c144
   try clear c146
   try clear c147
   try clear c148
   try clear c149
   try clear c150
   try clear c151
   try clear c154
   try clear c154b0
   try clear c154b1
   try clear c154b2
   try clear c156
   try clear c158
   try clear c159
   try clear c160
   try clear c161
   try clear c162
   try clear c163
   try clear c164
   try clear c166
   try clear c167
   try clear c168
   try clear c169
   try clear c170
   try clear c171
   try clear c175
   try clear c176
   try clear c177
   try clear c178
   try clear c179
   try clear c180
   try clear c181
   try clear c183
   try clear c184
   try clear c185
   try clear c186
   try clear c187
   try clear c188
   try clear c191
   try clear c191b0
   try clear c191b1
   try clear c191b2
   try clear c192
   try clear c192b0
   try clear c192b1
   try clear c192b2
   try clear q192
   try clear q193
   try clear c194
   try clear c196
   try clear c196b0
   try clear c196b1
   try clear c197
   try clear c197b0
   try clear c198
   try clear q198
   try clear c199
   try clear c200
   try clear c201
   try clear c202
   try clear c203
   try clear c204
   try clear c206
   try clear c207
   try clear c208
   try clear c209
   try clear c210
   try clear c211
   try clear c215
   try clear c216
   try clear c217
   try clear c218
   try clear c219
   try clear c221
   try clear c222
   try clear c223
   try clear c224
   try clear c225
   try clear c226
   try clear c227
   try clear c229
   try clear c230
   try clear c231
   try clear c232
   try clear c233
   try clear c234
   try clear c238
   try clear c239
   try clear c240
   try clear c241
   try clear c242
   try clear c244
   try clear c245
   try clear c246
   try clear c247
   try clear c248
   try clear c249
   try clear c250
   try clear c252
   try clear c253
   try clear c254
   try clear c255
   try clear c256
   try clear c257
   try clear c261
   try clear c262
   try clear c263
   try clear c264
   try clear c265
   try clear c266
   try clear c267
   try clear c269
   try clear c270
   try clear c271
   try clear c272
   try clear c273
   try clear c274
   try clear c277
   try clear c277b0
   try clear c277b1
   try clear c277b2
   try clear c279
   try clear c279b0
   try clear c279b1
   try clear c280
   try clear c280b0
   try clear c282
   try clear c283
   try clear c284
   try clear c285
   try clear c286
   try clear c287
   try clear c288
   try clear c292
   try clear c293
   try clear c294
   try clear c295
   try clear c296
   try clear c297
   try clear c298
   try clear hcz117_0
   try clear hcz117_1
   try clear hcz124_0
   try clear hcz124_1
   try clear hcz124_2
   try clear hcz124_3
   try clear hcz124_4
   try clear hcz124_5
   try clear hcz124_6
   try clear hcz124_7
   try clear hcz131_0
   try clear hcz131_1
   try clear hcz136_0
   try clear hcz136_1
   try clear hcz136_2
   try clear hcz136_3
   try clear hcz136_4
   try clear hcz136_5
   try clear hcz136_6
   try clear hcz136_7
   try clear hcz145_0
   try clear hcz145_1
   try clear hcz152_0
   try clear hcz152_1
   try clear hcz152_2
   try clear hcz152_3
   try clear hcz152_4
   try clear hcz152_5
   try clear hcz152_6
   try clear hcz152_7
   try clear hcz165_0
   try clear hcz165_1
   try clear hcz172_0
   try clear hcz172_1
   try clear hcz172_2
   try clear hcz172_3
   try clear hcz172_4
   try clear hcz172_5
   try clear hcz172_6
   try clear hcz172_7
   try clear hcz182_0
   try clear hcz182_1
   try clear hcz189_0
   try clear hcz189_1
   try clear hcz189_2
   try clear hcz189_3
   try clear hcz189_4
   try clear hcz189_5
   try clear hcz189_6
   try clear hcz189_7
   try clear hcz205_0
   try clear hcz205_1
   try clear hcz212_0
   try clear hcz212_1
   try clear hcz212_2
   try clear hcz212_3
   try clear hcz212_4
   try clear hcz212_5
   try clear hcz212_6
   try clear hcz212_7
   try clear hcz220_0
   try clear hcz220_1
   try clear hcz228_0
   try clear hcz228_1
   try clear hcz235_0
   try clear hcz235_1
   try clear hcz235_2
   try clear hcz235_3
   try clear hcz235_4
   try clear hcz235_5
   try clear hcz235_6
   try clear hcz235_7
   try clear hcz243_0
   try clear hcz243_1
   try clear hcz251_0
   try clear hcz251_1
   try clear hcz258_0
   try clear hcz258_1
   try clear hcz258_2
   try clear hcz258_3
   try clear hcz258_4
   try clear hcz258_5
   try clear hcz258_6
   try clear hcz258_7
   try clear hcz268_0
   try clear hcz268_1
   try clear hcz275_0
   try clear hcz275_1
   try clear hcz275_2
   try clear hcz275_3
   try clear hcz275_4
   try clear hcz275_5
   try clear hcz275_6
   try clear hcz275_7
   try clear hcz289_0
   try clear hcz289_1
   try clear hcz299_0
   try clear hcz299_1
   try clear hfz117_0
   try clear hfz117_1
   try clear hfz124_0
   try clear hfz124_1
   try clear hfz124_2
   try clear hfz124_3
   try clear hfz124_4
   try clear hfz124_5
   try clear hfz124_6
   try clear hfz124_7
   try clear hfz131_0
   try clear hfz131_1
   try clear hfz136_0
   try clear hfz136_1
   try clear hfz136_2
   try clear hfz136_3
   try clear hfz136_4
   try clear hfz136_5
   try clear hfz136_6
   try clear hfz136_7
   try clear hfz145_0
   try clear hfz145_1
   try clear hfz152_0
   try clear hfz152_1
   try clear hfz152_2
   try clear hfz152_3
   try clear hfz152_4
   try clear hfz152_5
   try clear hfz152_6
   try clear hfz152_7
   try clear hfz165_0
   try clear hfz165_1
   try clear hfz172_0
   try clear hfz172_1
   try clear hfz172_2
   try clear hfz172_3
   try clear hfz172_4
   try clear hfz172_5
   try clear hfz172_6
   try clear hfz172_7
   try clear hfz182_0
   try clear hfz182_1
   try clear hfz189_0
   try clear hfz189_1
   try clear hfz189_2
   try clear hfz189_3
   try clear hfz189_4
   try clear hfz189_5
   try clear hfz189_6
   try clear hfz189_7
   try clear hfz205_0
   try clear hfz205_1
   try clear hfz212_0
   try clear hfz212_1
   try clear hfz212_2
   try clear hfz212_3
   try clear hfz212_4
   try clear hfz212_5
   try clear hfz212_6
   try clear hfz212_7
   try clear hfz220_0
   try clear hfz220_1
   try clear hfz228_0
   try clear hfz228_1
   try clear hfz235_0
   try clear hfz235_1
   try clear hfz235_2
   try clear hfz235_3
   try clear hfz235_4
   try clear hfz235_5
   try clear hfz235_6
   try clear hfz235_7
   try clear hfz243_0
   try clear hfz243_1
   try clear hfz251_0
   try clear hfz251_1
   try clear hfz258_0
   try clear hfz258_1
   try clear hfz258_2
   try clear hfz258_3
   try clear hfz258_4
   try clear hfz258_5
   try clear hfz258_6
   try clear hfz258_7
   try clear hfz268_0
   try clear hfz268_1
   try clear hfz275_0
   try clear hfz275_1
   try clear hfz275_2
   try clear hfz275_3
   try clear hfz275_4
   try clear hfz275_5
   try clear hfz275_6
   try clear hfz275_7
   try clear hfz289_0
   try clear hfz289_1
   try clear hfz299_0
   try clear hfz299_1
   try clear q192
   try clear q193
   try clear q198
   obtain ⟨kq, x119_14, rfl, HA, HJ14, BK136, BK137, BK154, BK155, BK159, BK169, BK173, BK191, HB⟩ := hcut
   cases kq with
   | zero => exact absurd HA.out (by simp [arrearslaw03_WideReckons.j0])
   | succ kj14 =>
    have H := HA.out
    clear HA
    simp only [arrearslaw03_WideReckons.j0] at H
    by_cases c302 : x119_14 = true
    ·
     subst c302
     have H1 : (some false) = some r := by rw [if_pos rfl] at H; exact H
     clear H
     have H := H1
     clear H1
     exact absurd (H.trans (congrArg some HR.out)) (by simp)
    ·
     replace c302 := Bool.eq_false_iff.mpr c302
     subst c302
     rw [if_neg (show ¬ (false = true) by decide)] at H
     have H1 := H
     clear H
     have H := H1
     clear H1
     replace H := Option.bind_eq_some_iff.mp H
     obtain ⟨⟨t203, t204, t205, t206⟩, A3030, H⟩ := H
     (try dsimp only at H)
     have A303 := Aside0.mk A3030
     clear A3030
     by_cases c304 : a4 = 0
     ·
      rw [if_pos c304] at H
      have c304b0 : (a4 == 0) = true := beq_iff_eq.mpr c304
      have c304b1 : (a4 != 0) = false := bne_eq_false_iff_eq.mpr c304
      clear c304
      replace H := Option.bind_eq_some_iff.mp H
      obtain ⟨t208, A3050, H⟩ := H
      (try dsimp only at H)
      have A305 := Aside0.mk A3050
      clear A3050
      by_cases c306 : t208 = 1
      ·
       rw [if_pos c306] at H
       have c306b0 : (t208 == 1) = true := beq_iff_eq.mpr c306
       have c306b1 : (t208 != 1) = false := bne_eq_false_iff_eq.mpr c306
       clear c306
       replace H := Option.bind_eq_some_iff.mp H
       obtain ⟨⟨t209, t210⟩, A3070, H⟩ := H
       (try dsimp only at H)
       have A307 := Aside0.mk A3070
       clear A3070
       replace H := Option.bind_eq_some_iff.mp H
       obtain ⟨⟨t211, t212, t213, t214, t215, t216, t217, t218⟩, A3080, H⟩ := H
       (try dsimp only at H)
       have A308 := Aside0.mk A3080
       clear A3080
       replace H := Option.bind_eq_some_iff.mp H
       obtain ⟨t219, A3090, H⟩ := H
       replace H : (if t219 = true then ((wide_Wide_Less.f a0 a1 a2 a3).bind fun t220 => ((arrearsref03_Less.f t138 t139 t140 t141 t142 t143 t144 t145 t146 t147 t148 t149 t150 t151 t152 t153).bind fun t221 => (some (t220 == t221)))) else (some false)) = some r := H
       have A309 := Aside0.mk A3090
       clear A3090
       by_cases c310 : t219 = true
       ·
        subst c310
        have H1 : ((wide_Wide_Less.f a0 a1 a2 a3).bind fun t220 => ((arrearsref03_Less.f t138 t139 t140 t141 t142 t143 t144 t145 t146 t147 t148 t149 t150 t151 t152 t153).bind fun t221 => (some (t220 == t221)))) = some r := by rw [if_pos rfl] at H; exact H
        clear H
        have H := H1
        clear H1
        replace H := Option.bind_eq_some_iff.mp H
        obtain ⟨t220, A3110, H⟩ := H
        replace H : ((arrearsref03_Less.f t138 t139 t140 t141 t142 t143 t144 t145 t146 t147 t148 t149 t150 t151 t152 t153).bind fun t221 => (some (t220 == t221))) = some r := H
        have A311 := Aside0.mk A3110
        clear A3110
        replace H := Option.bind_eq_some_iff.mp H
        obtain ⟨t221, A3120, H⟩ := H
        replace H : (some (t220 == t221)) = some r := H
        have A312 := Aside0.mk A3120
        clear A3120
        obtain rfl := Option.some.inj H
        have hnb313 := NB136_137.out
        have hnc313 := NB137_136.out
        have hnb314 := NB136_154.out
        have hnc314 := NB154_136.out
        have hnb315 := NB136_155.out
        have hnc315 := NB155_136.out
        have hnb316 := NB136_159.out
        have hnc316 := NB159_136.out
        have hnb317 := NB136_169.out
        have hnc317 := NB169_136.out
        have hnb318 := NB136_173.out
        have hnc318 := NB173_136.out
        have hnb319 := NB136_191.out
        have hnc319 := NB191_136.out
        have hcz320_0 : wc.cell? ⟨gb136, 0, none⟩ = some (.int .u64 a0) := (blk_cell BK136.out 0).trans rfl
        have hcz320_1 : wc.cell? ⟨gb136, 1, none⟩ = some (.int .u64 a1) := (blk_cell BK136.out 1).trans rfl
        have hfz320_0 := blk_frozen BK136.out 0
        have hfz320_1 := blk_frozen BK136.out 1
        try go_wp2_with (first | ((with_reducible refine gate_callee (f := 14) rfl ?_); refine goesL_ (some 123) rfl rfl Tryd.func14 (by kernel_rfl) rfl #[.agg #[.int .u64 a0, .int .u64 a1], .int .u64 a4] rfl (by (try simp only [List.map_toArray, List.map_cons, List.map_nil]); first | done | rfl | (simp only [List.length_drop, List.length_take]; rfl)) ?_; (with_reducible refine (wide_Wide_Div.calls kj14 a0 a1 a4 t203 t204 t205 t206 _ A303.out).mono ?_); rintro e w321 ⟨rfl, hb⟩; refine ⟨_, rfl, ?_⟩; have n0_ := Aside0.mk (wrq BK136.out hb); have n1_ := Aside0.mk (wrq BK137.out hb); have n2_ := Aside0.mk (wrq BK154.out hb); have n3_ := Aside0.mk (wrq BK155.out hb); have n4_ := Aside0.mk (wrq BK159.out hb); have n5_ := Aside0.mk (wrq BK169.out hb); have n6_ := Aside0.mk (wrq BK173.out hb); have n7_ := Aside0.mk (wrq BK191.out hb); have n8_ := Aside0.mk (below_step (wrs HB.out) hb); clear BK136; clear BK137; clear BK154; clear BK155; clear BK159; clear BK169; clear BK173; clear BK191; clear HB; have BK136 := n0_; have BK137 := n1_; have BK154 := n2_; have BK155 := n3_; have BK159 := n4_; have BK169 := n5_; have BK173 := n6_; have BK191 := n7_; have HB := n8_; clear n0_ n1_ n2_ n3_ n4_ n5_ n6_ n7_ n8_; (try clear hb); (try clear hb2); (try clear hk); (try clear hi); (try simp only [errW_none, errW_some])) | ((with_reducible refine gate_dst (N := 23) rfl ?_); refine box_event ?hg (N := 23) ?hd (cs := #[.int .u64 0, .int .u64 0]) (t := 36) ?hr ?_; (case hd => rfl); (case hg => rfl); (case hr => first | (go_simp; done) | (go_simp; rfl)); intro gb207 hg w322 hbox hb; have n0_ := Aside0.mk (wrq BK136.out hb); have n1_ := Aside0.mk (wrq BK137.out hb); have n2_ := Aside0.mk (wrq BK154.out hb); have n3_ := Aside0.mk (wrq BK155.out hb); have n4_ := Aside0.mk (wrq BK159.out hb); have n5_ := Aside0.mk (wrq BK169.out hb); have n6_ := Aside0.mk (wrq BK173.out hb); have n7_ := Aside0.mk (wrq BK191.out hb); have n8_ := Aside0.mk (below_step (wrs HB.out) hb); have n9_ := Aside0.mk (hbox); have n10_ := Aside0.mk ((by rw [hg]; exact (below_size (wrs HB.out)) : w.heap.size ≤ gb207)); have n11_ := Aside0.mk ((by rw [hg]; exact (below_size (wrs HB.out)) : w.heap.size ≤ gb207)); have n12_ := Aside0.mk ((by rw [hg]; exact Nat.ne_of_lt (blk_lt (g := gb136) (o := .cells #[.int .u64 a0, .int .u64 a1] 36 (0, 0)) (wrx BK136.out)) : gb136 ≠ gb207)); have n13_ := Aside0.mk ((by rw [hg]; exact Nat.ne_of_gt (blk_lt (g := gb136) (o := .cells #[.int .u64 a0, .int .u64 a1] 36 (0, 0)) (wrx BK136.out)) : gb207 ≠ gb136)); have n14_ := Aside0.mk ((by rw [hg]; exact Nat.ne_of_lt (blk_lt (g := gb137) (o := .cells #[.int .u64 a2, .int .u64 a3] 36 (0, 0)) (wrx BK137.out)) : gb137 ≠ gb207)); have n15_ := Aside0.mk ((by rw [hg]; exact Nat.ne_of_gt (blk_lt (g := gb137) (o := .cells #[.int .u64 a2, .int .u64 a3] 36 (0, 0)) (wrx BK137.out)) : gb207 ≠ gb137)); have n16_ := Aside0.mk ((by rw [hg]; exact Nat.ne_of_lt (blk_lt (g := gb154) (o := .cells #[.int .u32 t138, .int .u32 t139, .int .u32 t140, .int .u32 t141, .int .u32 t142, .int .u32 t143, .int .u32 t144, .int .u32 t145] 46 (0, 0)) (wrx BK154.out)) : gb154 ≠ gb207)); have n17_ := Aside0.mk ((by rw [hg]; exact Nat.ne_of_gt (blk_lt (g := gb154) (o := .cells #[.int .u32 t138, .int .u32 t139, .int .u32 t140, .int .u32 t141, .int .u32 t142, .int .u32 t143, .int .u32 t144, .int .u32 t145] 46 (0, 0)) (wrx BK154.out)) : gb207 ≠ gb154)); have n18_ := Aside0.mk ((by rw [hg]; exact Nat.ne_of_lt (blk_lt (g := gb155) (o := .cells #[.int .u32 t146, .int .u32 t147, .int .u32 t148, .int .u32 t149, .int .u32 t150, .int .u32 t151, .int .u32 t152, .int .u32 t153] 46 (0, 0)) (wrx BK155.out)) : gb155 ≠ gb207)); have n19_ := Aside0.mk ((by rw [hg]; exact Nat.ne_of_gt (blk_lt (g := gb155) (o := .cells #[.int .u32 t146, .int .u32 t147, .int .u32 t148, .int .u32 t149, .int .u32 t150, .int .u32 t151, .int .u32 t152, .int .u32 t153] 46 (0, 0)) (wrx BK155.out)) : gb207 ≠ gb155)); have n20_ := Aside0.mk ((by rw [hg]; exact Nat.ne_of_lt (blk_lt (g := gb159) (o := .cells #[.int .u64 t156, .int .u64 t157] 36 (0, 0)) (wrx BK159.out)) : gb159 ≠ gb207)); have n21_ := Aside0.mk ((by rw [hg]; exact Nat.ne_of_gt (blk_lt (g := gb159) (o := .cells #[.int .u64 t156, .int .u64 t157] 36 (0, 0)) (wrx BK159.out)) : gb207 ≠ gb159)); have n22_ := Aside0.mk ((by rw [hg]; exact Nat.ne_of_lt (blk_lt (g := gb169) (o := .cells #[.int .u32 t160, .int .u32 t161, .int .u32 t162, .int .u32 t163, .int .u32 t164, .int .u32 t165, .int .u32 t166, .int .u32 t167] 46 (0, 0)) (wrx BK169.out)) : gb169 ≠ gb207)); have n23_ := Aside0.mk ((by rw [hg]; exact Nat.ne_of_gt (blk_lt (g := gb169) (o := .cells #[.int .u32 t160, .int .u32 t161, .int .u32 t162, .int .u32 t163, .int .u32 t164, .int .u32 t165, .int .u32 t166, .int .u32 t167] 46 (0, 0)) (wrx BK169.out)) : gb207 ≠ gb169)); have n24_ := Aside0.mk ((by rw [hg]; exact Nat.ne_of_lt (blk_lt (g := gb173) (o := .cells #[.int .u64 t170, .int .u64 t171] 36 (0, 0)) (wrx BK173.out)) : gb173 ≠ gb207)); have n25_ := Aside0.mk ((by rw [hg]; exact Nat.ne_of_gt (blk_lt (g := gb173) (o := .cells #[.int .u64 t170, .int .u64 t171] 36 (0, 0)) (wrx BK173.out)) : gb207 ≠ gb173)); have n26_ := Aside0.mk ((by rw [hg]; exact Nat.ne_of_lt (blk_lt (g := gb191) (o := .cells #[.int .u32 t182, .int .u32 t183, .int .u32 t184, .int .u32 t185, .int .u32 t186, .int .u32 t187, .int .u32 t188, .int .u32 t189] 46 (0, 0)) (wrx BK191.out)) : gb191 ≠ gb207)); have n27_ := Aside0.mk ((by rw [hg]; exact Nat.ne_of_gt (blk_lt (g := gb191) (o := .cells #[.int .u32 t182, .int .u32 t183, .int .u32 t184, .int .u32 t185, .int .u32 t186, .int .u32 t187, .int .u32 t188, .int .u32 t189] 46 (0, 0)) (wrx BK191.out)) : gb207 ≠ gb191)); clear BK136; clear BK137; clear BK154; clear BK155; clear BK159; clear BK169; clear BK173; clear BK191; clear HB; have BK136 := n0_; have BK137 := n1_; have BK154 := n2_; have BK155 := n3_; have BK159 := n4_; have BK169 := n5_; have BK173 := n6_; have BK191 := n7_; have HB := n8_; have BK207 := n9_; have GW207 := n10_; have GE207 := n11_; have NB136_207 := n12_; have NB207_136 := n13_; have NB137_207 := n14_; have NB207_137 := n15_; have NB154_207 := n16_; have NB207_154 := n17_; have NB155_207 := n18_; have NB207_155 := n19_; have NB159_207 := n20_; have NB207_159 := n21_; have NB169_207 := n22_; have NB207_169 := n23_; have NB173_207 := n24_; have NB207_173 := n25_; have NB191_207 := n26_; have NB207_191 := n27_; clear n0_ n1_ n2_ n3_ n4_ n5_ n6_ n7_ n8_ n9_ n10_ n11_ n12_ n13_ n14_ n15_ n16_ n17_ n18_ n19_ n20_ n21_ n22_ n23_ n24_ n25_ n26_ n27_; clear hb hbox hg; have hnb323 := NB207_136.out; have hnc323 := NB136_207.out; have hnb324 := NB207_137.out; have hnc324 := NB137_207.out; have hnb325 := NB207_154.out; have hnc325 := NB154_207.out; have hnb326 := NB207_155.out; have hnc326 := NB155_207.out; have hnb327 := NB207_159.out; have hnc327 := NB159_207.out; have hnb328 := NB207_169.out; have hnc328 := NB169_207.out; have hnb329 := NB207_173.out; have hnc329 := NB173_207.out; have hnb330 := NB207_191.out; have hnc330 := NB191_207.out; have hcz331_0 : w322.cell? ⟨gb207, 0, none⟩ = some (.int .u64 0) := (blk_cell BK207.out 0).trans rfl; have hcz331_1 : w322.cell? ⟨gb207, 1, none⟩ = some (.int .u64 0) := (blk_cell BK207.out 1).trans rfl; have hfz331_0 := blk_frozen BK207.out 0; have hfz331_1 := blk_frozen BK207.out 1))
        have n0_ : Aside0 (((w322.setCell ⟨gb207, 0, none⟩ (.int .u64 t203)).setCell ⟨gb207, 1, none⟩ (.int .u64 t204)).heap[gb136]? = some (.cells #[.int .u64 a0, .int .u64 a1] 36 (0, 0))) := ⟨wrf BK136.out⟩
        have n1_ : Aside0 (((w322.setCell ⟨gb207, 0, none⟩ (.int .u64 t203)).setCell ⟨gb207, 1, none⟩ (.int .u64 t204)).heap[gb137]? = some (.cells #[.int .u64 a2, .int .u64 a3] 36 (0, 0))) := ⟨wrf BK137.out⟩
        have n2_ : Aside0 (((w322.setCell ⟨gb207, 0, none⟩ (.int .u64 t203)).setCell ⟨gb207, 1, none⟩ (.int .u64 t204)).heap[gb154]? = some (.cells #[.int .u32 t138, .int .u32 t139, .int .u32 t140, .int .u32 t141, .int .u32 t142, .int .u32 t143, .int .u32 t144, .int .u32 t145] 46 (0, 0))) := ⟨wrf BK154.out⟩
        have n3_ : Aside0 (((w322.setCell ⟨gb207, 0, none⟩ (.int .u64 t203)).setCell ⟨gb207, 1, none⟩ (.int .u64 t204)).heap[gb155]? = some (.cells #[.int .u32 t146, .int .u32 t147, .int .u32 t148, .int .u32 t149, .int .u32 t150, .int .u32 t151, .int .u32 t152, .int .u32 t153] 46 (0, 0))) := ⟨wrf BK155.out⟩
        have n4_ : Aside0 (((w322.setCell ⟨gb207, 0, none⟩ (.int .u64 t203)).setCell ⟨gb207, 1, none⟩ (.int .u64 t204)).heap[gb159]? = some (.cells #[.int .u64 t156, .int .u64 t157] 36 (0, 0))) := ⟨wrf BK159.out⟩
        have n5_ : Aside0 (((w322.setCell ⟨gb207, 0, none⟩ (.int .u64 t203)).setCell ⟨gb207, 1, none⟩ (.int .u64 t204)).heap[gb169]? = some (.cells #[.int .u32 t160, .int .u32 t161, .int .u32 t162, .int .u32 t163, .int .u32 t164, .int .u32 t165, .int .u32 t166, .int .u32 t167] 46 (0, 0))) := ⟨wrf BK169.out⟩
        have n6_ : Aside0 (((w322.setCell ⟨gb207, 0, none⟩ (.int .u64 t203)).setCell ⟨gb207, 1, none⟩ (.int .u64 t204)).heap[gb173]? = some (.cells #[.int .u64 t170, .int .u64 t171] 36 (0, 0))) := ⟨wrf BK173.out⟩
        have n7_ : Aside0 (((w322.setCell ⟨gb207, 0, none⟩ (.int .u64 t203)).setCell ⟨gb207, 1, none⟩ (.int .u64 t204)).heap[gb191]? = some (.cells #[.int .u32 t182, .int .u32 t183, .int .u32 t184, .int .u32 t185, .int .u32 t186, .int .u32 t187, .int .u32 t188, .int .u32 t189] 46 (0, 0))) := ⟨wrf BK191.out⟩
        have n8_ : Aside0 (((w322.setCell ⟨gb207, 0, none⟩ (.int .u64 t203)).setCell ⟨gb207, 1, none⟩ (.int .u64 t204)).heap[gb207]? = some (.cells #[.int .u64 t203, .int .u64 t204] 36 (0, 0))) := ⟨by (with_reducible repeat (first | refine blk_drewN ?_ _ | refine blk_drew ?_ | refine blk_alloc ?_ _)); refine blk_put (cs := #[.int .u64 t203, .int .u64 0]) ?_ 1 _ rfl; (with_reducible repeat (first | refine blk_drewN ?_ _ | refine blk_drew ?_ | refine blk_alloc ?_ _)); refine blk_put (cs := #[.int .u64 0, .int .u64 0]) ?_ 0 _ rfl; (with_reducible repeat (first | refine blk_drewN ?_ _ | refine blk_drew ?_ | refine blk_alloc ?_ _)); exact BK207.out⟩
        have n9_ : Aside0 (Below w.heap.size w ((w322.setCell ⟨gb207, 0, none⟩ (.int .u64 t203)).setCell ⟨gb207, 1, none⟩ (.int .u64 t204))) := ⟨wrs HB.out⟩
        (try clear BK136)
        (try clear BK137)
        (try clear BK154)
        (try clear BK155)
        (try clear BK159)
        (try clear BK169)
        (try clear BK173)
        (try clear BK191)
        (try clear BK207)
        (try clear HB)
        generalize ((w322.setCell ⟨gb207, 0, none⟩ (.int .u64 t203)).setCell ⟨gb207, 1, none⟩ (.int .u64 t204)) = w332 at n0_ n1_ n2_ n3_ n4_ n5_ n6_ n7_ n8_ n9_ ⊢
        have BK136 := n0_
        have BK137 := n1_
        have BK154 := n2_
        have BK155 := n3_
        have BK159 := n4_
        have BK169 := n5_
        have BK173 := n6_
        have BK191 := n7_
        have BK207 := n8_
        have HB := n9_
        clear n0_ n1_ n2_ n3_ n4_ n5_ n6_ n7_ n8_ n9_
        have n0_ := Aside0.mk (blk_drew BK136.out)
        have n1_ := Aside0.mk (blk_drew BK137.out)
        have n2_ := Aside0.mk (blk_drew BK154.out)
        have n3_ := Aside0.mk (blk_drew BK155.out)
        have n4_ := Aside0.mk (blk_drew BK159.out)
        have n5_ := Aside0.mk (blk_drew BK169.out)
        have n6_ := Aside0.mk (blk_drew BK173.out)
        have n7_ := Aside0.mk (blk_drew BK191.out)
        have n8_ := Aside0.mk (blk_drew BK207.out)
        have n9_ := Aside0.mk (below_drew1 HB.out)
        clear BK136
        clear BK137
        clear BK154
        clear BK155
        clear BK159
        clear BK169
        clear BK173
        clear BK191
        clear BK207
        clear HB
        have BK136 := n0_
        have BK137 := n1_
        have BK154 := n2_
        have BK155 := n3_
        have BK159 := n4_
        have BK169 := n5_
        have BK173 := n6_
        have BK191 := n7_
        have BK207 := n8_
        have HB := n9_
        clear n0_ n1_ n2_ n3_ n4_ n5_ n6_ n7_ n8_ n9_
        have CA305 := fun W (hGW : Go.Proofs.YtfpbibfoipbahaaDoor.M.Laid W) => api_Code.calls t206 t208 W hGW A305.out
        try simp only [errW_none, errW_some] at CA305
        refine start_ (n := 22) (S := fun w' => w'.cell? ⟨gb136, 0, none⟩ = some (.int .u64 a0) ∧ w'.cell? ⟨gb136, 1, none⟩ = some (.int .u64 a1) ∧ w'.cell? ⟨gb137, 0, none⟩ = some (.int .u64 a2) ∧ w'.cell? ⟨gb137, 1, none⟩ = some (.int .u64 a3) ∧ w'.cell? ⟨gb154, 0, none⟩ = some (.int .u32 t138) ∧ w'.cell? ⟨gb154, 1, none⟩ = some (.int .u32 t139) ∧ w'.cell? ⟨gb154, 2, none⟩ = some (.int .u32 t140) ∧ w'.cell? ⟨gb154, 3, none⟩ = some (.int .u32 t141) ∧ w'.cell? ⟨gb154, 4, none⟩ = some (.int .u32 t142) ∧ w'.cell? ⟨gb154, 5, none⟩ = some (.int .u32 t143) ∧ w'.cell? ⟨gb154, 6, none⟩ = some (.int .u32 t144) ∧ w'.cell? ⟨gb154, 7, none⟩ = some (.int .u32 t145) ∧ w'.cell? ⟨gb155, 0, none⟩ = some (.int .u32 t146) ∧ w'.cell? ⟨gb155, 1, none⟩ = some (.int .u32 t147) ∧ w'.cell? ⟨gb155, 2, none⟩ = some (.int .u32 t148) ∧ w'.cell? ⟨gb155, 3, none⟩ = some (.int .u32 t149) ∧ w'.cell? ⟨gb155, 4, none⟩ = some (.int .u32 t150) ∧ w'.cell? ⟨gb155, 5, none⟩ = some (.int .u32 t151) ∧ w'.cell? ⟨gb155, 6, none⟩ = some (.int .u32 t152) ∧ w'.cell? ⟨gb155, 7, none⟩ = some (.int .u32 t153)) (ds := []) #[F_,F_,F_,F_,F_,F_,F_,F_,F_,F_,F_,F_,F_,F_,F_,F_,F_,F_,F_,F_,F_,F_] (by kernel_rfl) rfl rfl ⟨(blk_cell BK136.out 0).trans rfl, (blk_cell BK136.out 1).trans rfl, (blk_cell BK137.out 0).trans rfl, (blk_cell BK137.out 1).trans rfl, (blk_cell BK154.out 0).trans rfl, (blk_cell BK154.out 1).trans rfl, (blk_cell BK154.out 2).trans rfl, (blk_cell BK154.out 3).trans rfl, (blk_cell BK154.out 4).trans rfl, (blk_cell BK154.out 5).trans rfl, (blk_cell BK154.out 6).trans rfl, (blk_cell BK154.out 7).trans rfl, (blk_cell BK155.out 0).trans rfl, (blk_cell BK155.out 1).trans rfl, (blk_cell BK155.out 2).trans rfl, (blk_cell BK155.out 3).trans rfl, (blk_cell BK155.out 4).trans rfl, (blk_cell BK155.out 5).trans rfl, (blk_cell BK155.out 6).trans rfl, (blk_cell BK155.out 7).trans rfl⟩ (fun hHeld => ?_); refine with_tabW arrearslaw03_WideReckons.tab13 arrearslaw03_WideReckons.bits13 (fun HT_ HW_ => ?_)
        generalize w332.drew = w333 at BK136 BK137 BK154 BK155 BK159 BK169 BK173 BK191 BK207 HB hHeld ⊢
        refine pure_ (i := 0) (N := some 129) (v := ?_) (a' := ?_) #[T_,F_,F_,F_,F_,F_,F_,F_,F_,F_,F_,F_,F_,F_,F_,F_,F_,F_,F_,F_,F_,F_] rfl rfl (any_of HT_.out (by kernel_rfl)) (fun _ _ _ h => h) (Or.inl ⟨by rfl, ?_⟩) ?_ ?_
        rotate_left
        ·
         intro w'
         go_simp
         with_reducible rfl
        rotate_left
        ·
         simp only [Act.put, List.setIfInBounds_toArray, List.set_cons_zero, List.set_cons_succ, i64_w, i32_w]
         rfl
        refine one_ (i := 1) (N := some 130) #[T_,T_,F_,F_,F_,F_,F_,F_,F_,F_,F_,F_,F_,F_,F_,F_,F_,F_,F_,F_,F_,F_] rfl rfl (one_of HT_.out (by kernel_rfl)) (by decide) (fun K hK => ?_)
        refine goes_ Tryd.func11 (by kernel_rfl) rfl #[errW t206] (by rfl) rfl rfl (by (try simp only [List.map_toArray, List.map_cons, List.map_nil]); first | done | rfl | (simp only [List.length_drop, List.length_take]; rfl)) ?_
        (try simp only [errW_none, errW_some])
        with_reducible refine (CA305 _ ?hGL).mono ?_
        case hGL => exact Go.Proofs.YtfpbibfoipbahaaDoor.M.Laid.below HG.out (wrs HB.out)
        rintro e w334 ⟨rfl, hb⟩
        refine ⟨_, rfl, ?_⟩
        have n0_ := Aside0.mk (wrq BK136.out hb)
        have n1_ := Aside0.mk (wrq BK137.out hb)
        have n2_ := Aside0.mk (wrq BK154.out hb)
        have n3_ := Aside0.mk (wrq BK155.out hb)
        have n4_ := Aside0.mk (wrq BK159.out hb)
        have n5_ := Aside0.mk (wrq BK169.out hb)
        have n6_ := Aside0.mk (wrq BK173.out hb)
        have n7_ := Aside0.mk (wrq BK191.out hb)
        have n8_ := Aside0.mk (wrq BK207.out hb)
        have n9_ := Aside0.mk (below_step (wrs HB.out) hb)
        clear BK136
        clear BK137
        clear BK154
        clear BK155
        clear BK159
        clear BK169
        clear BK173
        clear BK191
        clear BK207
        clear HB
        have BK136 := n0_
        have BK137 := n1_
        have BK154 := n2_
        have BK155 := n3_
        have BK159 := n4_
        have BK169 := n5_
        have BK173 := n6_
        have BK191 := n7_
        have BK207 := n8_
        have HB := n9_
        clear n0_ n1_ n2_ n3_ n4_ n5_ n6_ n7_ n8_ n9_
        (try clear hb)
        (try clear hb2)
        (try clear hk)
        (try clear hi)
        refine hK.out _ _ ⟨(blk_cell BK136.out 0).trans rfl, (blk_cell BK136.out 1).trans rfl, (blk_cell BK137.out 0).trans rfl, (blk_cell BK137.out 1).trans rfl, (blk_cell BK154.out 0).trans rfl, (blk_cell BK154.out 1).trans rfl, (blk_cell BK154.out 2).trans rfl, (blk_cell BK154.out 3).trans rfl, (blk_cell BK154.out 4).trans rfl, (blk_cell BK154.out 5).trans rfl, (blk_cell BK154.out 6).trans rfl, (blk_cell BK154.out 7).trans rfl, (blk_cell BK155.out 0).trans rfl, (blk_cell BK155.out 1).trans rfl, (blk_cell BK155.out 2).trans rfl, (blk_cell BK155.out 3).trans rfl, (blk_cell BK155.out 4).trans rfl, (blk_cell BK155.out 5).trans rfl, (blk_cell BK155.out 6).trans rfl, (blk_cell BK155.out 7).trans rfl⟩ (fun hHeld => ?_)
        clear hK K
        refine norm_ (a' := ?_) ?_ ?_
        rotate_left
        ·
         show Act.put _ (some 130) _ = _
         simp only [Act.put, List.setIfInBounds_toArray, List.set_cons_zero, List.set_cons_succ, i64_w, i32_w]
         rfl
        refine pure_ (i := 2) (N := some 131) (v := ?_) (a' := ?_) #[T_,T_,T_,F_,F_,F_,F_,F_,F_,F_,F_,F_,F_,F_,F_,F_,F_,F_,F_,F_,F_,F_] rfl rfl (any_of HT_.out (by kernel_rfl)) (fun _ _ _ h => h) (Or.inl ⟨by rfl, ?_⟩) ?_ ?_
        rotate_left
        ·
         intro w'
         go_simp
         with_reducible rfl
        rotate_left
        ·
         simp only [Act.put, List.setIfInBounds_toArray, List.set_cons_zero, List.set_cons_succ, i64_w, i32_w]
         rfl
        refine pure_ (i := 3) (N := some 132) (v := ?_) (a' := ?_) #[T_,T_,T_,T_,F_,F_,F_,F_,F_,F_,F_,F_,F_,F_,F_,F_,F_,F_,F_,F_,F_,F_] rfl rfl (any_of HT_.out (by kernel_rfl)) (fun _ _ _ h => h) (Or.inl ⟨by rfl, ?_⟩) ?_ ?_
        rotate_left
        ·
         intro w'
         go_simp
         with_reducible rfl
        rotate_left
        ·
         simp only [Act.put, List.setIfInBounds_toArray, List.set_cons_zero, List.set_cons_succ, i64_w, i32_w]
         rfl
        refine pure_ (i := 4) (N := some 133) (v := ?_) (a' := ?_) #[T_,T_,T_,T_,T_,F_,F_,F_,F_,F_,F_,F_,F_,F_,F_,F_,F_,F_,F_,F_,F_,F_] rfl rfl (any_of HT_.out (by kernel_rfl)) (fun _ _ _ h => h) (Or.inl ⟨by rfl, ?_⟩) ?_ ?_
        rotate_left
        ·
         intro w'
         go_simp
         with_reducible rfl
        rotate_left
        ·
         simp only [Act.put, List.setIfInBounds_toArray, List.set_cons_zero, List.set_cons_succ, i64_w, i32_w]
         rfl
        refine pure_ (i := 5) (N := some 134) (v := ?_) (a' := ?_) #[T_,T_,T_,T_,T_,T_,F_,F_,F_,F_,F_,F_,F_,F_,F_,F_,F_,F_,F_,F_,F_,F_] rfl rfl (any_of HT_.out (by kernel_rfl)) (fun _ _ _ h => h) (Or.inl ⟨by rfl, ?_⟩) ?_ ?_
        rotate_left
        ·
         intro w'
         go_simp
         with_reducible rfl
        rotate_left
        ·
         simp only [Act.put, List.setIfInBounds_toArray, List.set_cons_zero, List.set_cons_succ, i64_w, i32_w]
         rfl
        refine pure_ (i := 7) (N := some 136) (v := ?_) (a' := ?_) #[T_,T_,T_,T_,T_,T_,F_,T_,F_,F_,F_,F_,F_,F_,F_,F_,F_,F_,F_,F_,F_,F_] rfl rfl (any_of HT_.out (by kernel_rfl)) (fun _ _ _ h => h) (Or.inl ⟨by rfl, ?_⟩) ?_ ?_
        rotate_left
        ·
         intro w'
         go_simp
         with_reducible rfl
        rotate_left
        ·
         simp only [Act.put, List.setIfInBounds_toArray, List.set_cons_zero, List.set_cons_succ, i64_w, i32_w]
         rfl
        refine pure_ (i := 8) (N := some 137) (v := ?_) (a' := ?_) #[T_,T_,T_,T_,T_,T_,F_,T_,T_,F_,F_,F_,F_,F_,F_,F_,F_,F_,F_,F_,F_,F_] rfl rfl (any_of HT_.out (by kernel_rfl)) (fun _ _ _ h => h) (Or.inl ⟨by rfl, ?_⟩) ?_ ?_
        rotate_left
        ·
         intro w'
         go_simp
         with_reducible rfl
        rotate_left
        ·
         simp only [Act.put, List.setIfInBounds_toArray, List.set_cons_zero, List.set_cons_succ, i64_w, i32_w]
         rfl
        refine one_ (i := 6) (N := some 135) #[T_,T_,T_,T_,T_,T_,T_,T_,T_,F_,F_,F_,F_,F_,F_,F_,F_,F_,F_,F_,F_,F_] rfl rfl (one_of HT_.out (by kernel_rfl)) (by decide) (fun K hK => ?_)
        refine goes_ Tryd.func13 (by kernel_rfl) rfl #[.int .u64 a0, .int .u64 a2] (by rfl) rfl rfl (by (try simp only [List.map_toArray, List.map_cons, List.map_nil]); first | done | rfl | (simp only [List.length_drop, List.length_take]; rfl)) ?_
        with_reducible refine (wide_Mul.calls a0 a2 t209 t210 _ A307.out).mono ?_
        rintro e w335 ⟨rfl, hb⟩
        refine ⟨_, rfl, ?_⟩
        have n0_ := Aside0.mk (wrq BK136.out hb)
        have n1_ := Aside0.mk (wrq BK137.out hb)
        have n2_ := Aside0.mk (wrq BK154.out hb)
        have n3_ := Aside0.mk (wrq BK155.out hb)
        have n4_ := Aside0.mk (wrq BK159.out hb)
        have n5_ := Aside0.mk (wrq BK169.out hb)
        have n6_ := Aside0.mk (wrq BK173.out hb)
        have n7_ := Aside0.mk (wrq BK191.out hb)
        have n8_ := Aside0.mk (wrq BK207.out hb)
        have n9_ := Aside0.mk (below_step (wrs HB.out) hb)
        clear BK136
        clear BK137
        clear BK154
        clear BK155
        clear BK159
        clear BK169
        clear BK173
        clear BK191
        clear BK207
        clear HB
        have BK136 := n0_
        have BK137 := n1_
        have BK154 := n2_
        have BK155 := n3_
        have BK159 := n4_
        have BK169 := n5_
        have BK173 := n6_
        have BK191 := n7_
        have BK207 := n8_
        have HB := n9_
        clear n0_ n1_ n2_ n3_ n4_ n5_ n6_ n7_ n8_ n9_
        (try clear hb)
        (try clear hb2)
        (try clear hk)
        (try clear hi)
        refine hK.out _ _ ⟨(blk_cell BK136.out 0).trans rfl, (blk_cell BK136.out 1).trans rfl, (blk_cell BK137.out 0).trans rfl, (blk_cell BK137.out 1).trans rfl, (blk_cell BK154.out 0).trans rfl, (blk_cell BK154.out 1).trans rfl, (blk_cell BK154.out 2).trans rfl, (blk_cell BK154.out 3).trans rfl, (blk_cell BK154.out 4).trans rfl, (blk_cell BK154.out 5).trans rfl, (blk_cell BK154.out 6).trans rfl, (blk_cell BK154.out 7).trans rfl, (blk_cell BK155.out 0).trans rfl, (blk_cell BK155.out 1).trans rfl, (blk_cell BK155.out 2).trans rfl, (blk_cell BK155.out 3).trans rfl, (blk_cell BK155.out 4).trans rfl, (blk_cell BK155.out 5).trans rfl, (blk_cell BK155.out 6).trans rfl, (blk_cell BK155.out 7).trans rfl⟩ (fun hHeld => ?_)
        clear hK K
        refine norm_ (a' := ?_) ?_ ?_
        rotate_left
        ·
         show Act.put _ (some 135) _ = _
         simp only [Act.put, List.setIfInBounds_toArray, List.set_cons_zero, List.set_cons_succ, i64_w, i32_w]
         rfl
        refine one_ (i := 9) (N := some 138) #[T_,T_,T_,T_,T_,T_,T_,T_,T_,T_,F_,F_,F_,F_,F_,F_,F_,F_,F_,F_,F_,F_] rfl rfl (one_of HT_.out (by kernel_rfl)) (by decide) (fun K hK => ?_)
        refine goes_ Tryd.func21 (by kernel_rfl) rfl #[.int .u64 a0, .int .u64 a2] (by rfl) rfl rfl (by (try simp only [List.map_toArray, List.map_cons, List.map_nil]); first | done | rfl | (simp only [List.length_drop, List.length_take]; rfl)) ?_
        with_reducible refine (arrearsref03_Mul.calls a0 a2 t211 t212 t213 t214 t215 t216 t217 t218 _ A308.out).mono ?_
        rintro e w336 ⟨rfl, hb⟩
        refine ⟨_, rfl, ?_⟩
        have n0_ := Aside0.mk (wrq BK136.out hb)
        have n1_ := Aside0.mk (wrq BK137.out hb)
        have n2_ := Aside0.mk (wrq BK154.out hb)
        have n3_ := Aside0.mk (wrq BK155.out hb)
        have n4_ := Aside0.mk (wrq BK159.out hb)
        have n5_ := Aside0.mk (wrq BK169.out hb)
        have n6_ := Aside0.mk (wrq BK173.out hb)
        have n7_ := Aside0.mk (wrq BK191.out hb)
        have n8_ := Aside0.mk (wrq BK207.out hb)
        have n9_ := Aside0.mk (below_step (wrs HB.out) hb)
        clear BK136
        clear BK137
        clear BK154
        clear BK155
        clear BK159
        clear BK169
        clear BK173
        clear BK191
        clear BK207
        clear HB
        have BK136 := n0_
        have BK137 := n1_
        have BK154 := n2_
        have BK155 := n3_
        have BK159 := n4_
        have BK169 := n5_
        have BK173 := n6_
        have BK191 := n7_
        have BK207 := n8_
        have HB := n9_
        clear n0_ n1_ n2_ n3_ n4_ n5_ n6_ n7_ n8_ n9_
        (try clear hb)
        (try clear hb2)
        (try clear hk)
        (try clear hi)
        refine hK.out _ _ ⟨(blk_cell BK136.out 0).trans rfl, (blk_cell BK136.out 1).trans rfl, (blk_cell BK137.out 0).trans rfl, (blk_cell BK137.out 1).trans rfl, (blk_cell BK154.out 0).trans rfl, (blk_cell BK154.out 1).trans rfl, (blk_cell BK154.out 2).trans rfl, (blk_cell BK154.out 3).trans rfl, (blk_cell BK154.out 4).trans rfl, (blk_cell BK154.out 5).trans rfl, (blk_cell BK154.out 6).trans rfl, (blk_cell BK154.out 7).trans rfl, (blk_cell BK155.out 0).trans rfl, (blk_cell BK155.out 1).trans rfl, (blk_cell BK155.out 2).trans rfl, (blk_cell BK155.out 3).trans rfl, (blk_cell BK155.out 4).trans rfl, (blk_cell BK155.out 5).trans rfl, (blk_cell BK155.out 6).trans rfl, (blk_cell BK155.out 7).trans rfl⟩ (fun hHeld => ?_)
        clear hK K
        refine norm_ (a' := ?_) ?_ ?_
        rotate_left
        ·
         show Act.put _ (some 138) _ = _
         simp only [Act.put, List.setIfInBounds_toArray, List.set_cons_zero, List.set_cons_succ, i64_w, i32_w]
         rfl
        refine one_ (i := 10) (N := some 139) #[T_,T_,T_,T_,T_,T_,T_,T_,T_,T_,T_,F_,F_,F_,F_,F_,F_,F_,F_,F_,F_,F_] rfl rfl (one_of HT_.out (by kernel_rfl)) (by decide) (fun K hK => ?_)
        refine goes_ Tryd.func20 (by kernel_rfl) rfl #[.agg #[.int .u64 t209, .int .u64 t210], .agg #[.int .u32 t211, .int .u32 t212, .int .u32 t213, .int .u32 t214, .int .u32 t215, .int .u32 t216, .int .u32 t217, .int .u32 t218]] (by rfl) rfl rfl (by (try simp only [List.map_toArray, List.map_cons, List.map_nil]); first | done | rfl | (simp only [List.length_drop, List.length_take]; rfl)) ?_
        with_reducible refine (arrearslaw03_same.calls t209 t210 t211 t212 t213 t214 t215 t216 t217 t218 true _ A309.out).mono ?_
        rintro e w337 ⟨rfl, hb⟩
        refine ⟨_, rfl, ?_⟩
        have n0_ := Aside0.mk (wrq BK136.out hb)
        have n1_ := Aside0.mk (wrq BK137.out hb)
        have n2_ := Aside0.mk (wrq BK154.out hb)
        have n3_ := Aside0.mk (wrq BK155.out hb)
        have n4_ := Aside0.mk (wrq BK159.out hb)
        have n5_ := Aside0.mk (wrq BK169.out hb)
        have n6_ := Aside0.mk (wrq BK173.out hb)
        have n7_ := Aside0.mk (wrq BK191.out hb)
        have n8_ := Aside0.mk (wrq BK207.out hb)
        have n9_ := Aside0.mk (below_step (wrs HB.out) hb)
        clear BK136
        clear BK137
        clear BK154
        clear BK155
        clear BK159
        clear BK169
        clear BK173
        clear BK191
        clear BK207
        clear HB
        have BK136 := n0_
        have BK137 := n1_
        have BK154 := n2_
        have BK155 := n3_
        have BK159 := n4_
        have BK169 := n5_
        have BK173 := n6_
        have BK191 := n7_
        have BK207 := n8_
        have HB := n9_
        clear n0_ n1_ n2_ n3_ n4_ n5_ n6_ n7_ n8_ n9_
        (try clear hb)
        (try clear hb2)
        (try clear hk)
        (try clear hi)
        refine hK.out _ _ ⟨(blk_cell BK136.out 0).trans rfl, (blk_cell BK136.out 1).trans rfl, (blk_cell BK137.out 0).trans rfl, (blk_cell BK137.out 1).trans rfl, (blk_cell BK154.out 0).trans rfl, (blk_cell BK154.out 1).trans rfl, (blk_cell BK154.out 2).trans rfl, (blk_cell BK154.out 3).trans rfl, (blk_cell BK154.out 4).trans rfl, (blk_cell BK154.out 5).trans rfl, (blk_cell BK154.out 6).trans rfl, (blk_cell BK154.out 7).trans rfl, (blk_cell BK155.out 0).trans rfl, (blk_cell BK155.out 1).trans rfl, (blk_cell BK155.out 2).trans rfl, (blk_cell BK155.out 3).trans rfl, (blk_cell BK155.out 4).trans rfl, (blk_cell BK155.out 5).trans rfl, (blk_cell BK155.out 6).trans rfl, (blk_cell BK155.out 7).trans rfl⟩ (fun hHeld => ?_)
        clear hK K
        refine norm_ (a' := ?_) ?_ ?_
        rotate_left
        ·
         show Act.put _ (some 139) _ = _
         simp only [Act.put, List.setIfInBounds_toArray, List.set_cons_zero, List.set_cons_succ, i64_w, i32_w]
         rfl
        refine pure_ (i := 11) (N := some 140) (v := ?_) (a' := ?_) #[T_,T_,T_,T_,T_,T_,T_,T_,T_,T_,T_,T_,F_,F_,F_,F_,F_,F_,F_,F_,F_,F_] rfl rfl (any_of HT_.out (by kernel_rfl)) (fun _ _ _ h => h) (Or.inl ⟨by rfl, ?_⟩) ?_ ?_
        rotate_left
        ·
         intro w'
         go_simp
         with_reducible rfl
        rotate_left
        ·
         simp only [Act.put, List.setIfInBounds_toArray, List.set_cons_zero, List.set_cons_succ, i64_w, i32_w]
         rfl
        refine pure_ (i := 12) (N := some 141) (v := ?_) (a' := ?_) #[T_,T_,T_,T_,T_,T_,T_,T_,T_,T_,T_,T_,T_,F_,F_,F_,F_,F_,F_,F_,F_,F_] rfl rfl (any_of HT_.out (by kernel_rfl)) (fun _ _ _ h => h) (Or.inl ⟨by rfl, ?_⟩) ?_ ?_
        rotate_left
        ·
         intro w'
         go_simp
         with_reducible rfl
        rotate_left
        ·
         simp only [Act.put, List.setIfInBounds_toArray, List.set_cons_zero, List.set_cons_succ, i64_w, i32_w]
         rfl
        refine take_ (i := 13) (N := some 142) (v := ?_) (a' := ?_) #[T_,T_,T_,T_,T_,T_,T_,T_,T_,T_,T_,T_,T_,T_,F_,F_,F_,F_,F_,F_,F_,F_] rfl rfl (take_ofW HT_.out HW_.out (by kernel_rfl)) (fun _ _ _ h => h) (Or.inl ⟨by rfl, ?_⟩) hHeld ?_ ?_
        rotate_left
        ·
         rintro w' ⟨s0, s1, s2, s3, s4, s5, s6, s7, s8, s9, s10, s11, s12, s13, s14, s15, s16, s17, s18, s19⟩
         go_simp
         with_reducible rfl
        rotate_left
        ·
         simp only [Act.put, List.setIfInBounds_toArray, List.set_cons_zero, List.set_cons_succ, i64_w, i32_w]
         rfl
        refine take_ (i := 14) (N := some 143) (v := ?_) (a' := ?_) #[T_,T_,T_,T_,T_,T_,T_,T_,T_,T_,T_,T_,T_,T_,T_,F_,F_,F_,F_,F_,F_,F_] rfl rfl (take_ofW HT_.out HW_.out (by kernel_rfl)) (fun _ _ _ h => h) (Or.inl ⟨by rfl, ?_⟩) hHeld ?_ ?_
        rotate_left
        ·
         rintro w' ⟨s0, s1, s2, s3, s4, s5, s6, s7, s8, s9, s10, s11, s12, s13, s14, s15, s16, s17, s18, s19⟩
         go_simp
         with_reducible rfl
        rotate_left
        ·
         simp only [Act.put, List.setIfInBounds_toArray, List.set_cons_zero, List.set_cons_succ, i64_w, i32_w]
         rfl
        refine take_ (i := 16) (N := some 145) (v := ?_) (a' := ?_) #[T_,T_,T_,T_,T_,T_,T_,T_,T_,T_,T_,T_,T_,T_,T_,F_,T_,F_,F_,F_,F_,F_] rfl rfl (take_ofW HT_.out HW_.out (by kernel_rfl)) (fun _ _ _ h => h) (Or.inl ⟨by rfl, ?_⟩) hHeld ?_ ?_
        rotate_left
        ·
         rintro w' ⟨s0, s1, s2, s3, s4, s5, s6, s7, s8, s9, s10, s11, s12, s13, s14, s15, s16, s17, s18, s19⟩
         go_simp
         with_reducible rfl
        rotate_left
        ·
         simp only [Act.put, List.setIfInBounds_toArray, List.set_cons_zero, List.set_cons_succ, i64_w, i32_w]
         rfl
        refine take_ (i := 17) (N := some 146) (v := ?_) (a' := ?_) #[T_,T_,T_,T_,T_,T_,T_,T_,T_,T_,T_,T_,T_,T_,T_,F_,T_,T_,F_,F_,F_,F_] rfl rfl (take_ofW HT_.out HW_.out (by kernel_rfl)) (fun _ _ _ h => h) (Or.inl ⟨by rfl, ?_⟩) hHeld ?_ ?_
        rotate_left
        ·
         rintro w' ⟨s0, s1, s2, s3, s4, s5, s6, s7, s8, s9, s10, s11, s12, s13, s14, s15, s16, s17, s18, s19⟩
         go_simp
         with_reducible rfl
        rotate_left
        ·
         simp only [Act.put, List.setIfInBounds_toArray, List.set_cons_zero, List.set_cons_succ, i64_w, i32_w]
         rfl
        refine one_ (i := 15) (N := some 144) #[T_,T_,T_,T_,T_,T_,T_,T_,T_,T_,T_,T_,T_,T_,T_,T_,T_,T_,F_,F_,F_,F_] rfl rfl (one_of HT_.out (by kernel_rfl)) (by decide) (fun K hK => ?_)
        refine goes_ Tryd.func22 (by kernel_rfl) rfl #[.agg #[.int .u64 a0, .int .u64 a1], .agg #[.int .u64 a2, .int .u64 a3]] (by rfl) rfl rfl (by (try simp only [List.map_toArray, List.map_cons, List.map_nil]); first | done | rfl | (simp only [List.length_drop, List.length_take]; rfl)) ?_
        with_reducible refine (wide_Wide_Less.calls a0 a1 a2 a3 t220 _ A311.out).mono ?_
        rintro e w338 ⟨rfl, hb⟩
        refine ⟨_, rfl, ?_⟩
        have n0_ := Aside0.mk (wrq BK136.out hb)
        have n1_ := Aside0.mk (wrq BK137.out hb)
        have n2_ := Aside0.mk (wrq BK154.out hb)
        have n3_ := Aside0.mk (wrq BK155.out hb)
        have n4_ := Aside0.mk (wrq BK159.out hb)
        have n5_ := Aside0.mk (wrq BK169.out hb)
        have n6_ := Aside0.mk (wrq BK173.out hb)
        have n7_ := Aside0.mk (wrq BK191.out hb)
        have n8_ := Aside0.mk (wrq BK207.out hb)
        have n9_ := Aside0.mk (below_step (wrs HB.out) hb)
        clear BK136
        clear BK137
        clear BK154
        clear BK155
        clear BK159
        clear BK169
        clear BK173
        clear BK191
        clear BK207
        clear HB
        have BK136 := n0_
        have BK137 := n1_
        have BK154 := n2_
        have BK155 := n3_
        have BK159 := n4_
        have BK169 := n5_
        have BK173 := n6_
        have BK191 := n7_
        have BK207 := n8_
        have HB := n9_
        clear n0_ n1_ n2_ n3_ n4_ n5_ n6_ n7_ n8_ n9_
        (try clear hb)
        (try clear hb2)
        (try clear hk)
        (try clear hi)
        refine hK.out _ _ ⟨(blk_cell BK136.out 0).trans rfl, (blk_cell BK136.out 1).trans rfl, (blk_cell BK137.out 0).trans rfl, (blk_cell BK137.out 1).trans rfl, (blk_cell BK154.out 0).trans rfl, (blk_cell BK154.out 1).trans rfl, (blk_cell BK154.out 2).trans rfl, (blk_cell BK154.out 3).trans rfl, (blk_cell BK154.out 4).trans rfl, (blk_cell BK154.out 5).trans rfl, (blk_cell BK154.out 6).trans rfl, (blk_cell BK154.out 7).trans rfl, (blk_cell BK155.out 0).trans rfl, (blk_cell BK155.out 1).trans rfl, (blk_cell BK155.out 2).trans rfl, (blk_cell BK155.out 3).trans rfl, (blk_cell BK155.out 4).trans rfl, (blk_cell BK155.out 5).trans rfl, (blk_cell BK155.out 6).trans rfl, (blk_cell BK155.out 7).trans rfl⟩ (fun hHeld => ?_)
        clear hK K
        refine norm_ (a' := ?_) ?_ ?_
        rotate_left
        ·
         show Act.put _ (some 144) _ = _
         simp only [Act.put, List.setIfInBounds_toArray, List.set_cons_zero, List.set_cons_succ, i64_w, i32_w]
         rfl
        refine one_ (i := 18) (N := some 147) #[T_,T_,T_,T_,T_,T_,T_,T_,T_,T_,T_,T_,T_,T_,T_,T_,T_,T_,T_,F_,F_,F_] rfl rfl (one_of HT_.out (by kernel_rfl)) (by decide) (fun K hK => ?_)
        refine goes_ Tryd.func23 (by kernel_rfl) rfl #[.agg #[.int .u32 t138, .int .u32 t139, .int .u32 t140, .int .u32 t141, .int .u32 t142, .int .u32 t143, .int .u32 t144, .int .u32 t145], .agg #[.int .u32 t146, .int .u32 t147, .int .u32 t148, .int .u32 t149, .int .u32 t150, .int .u32 t151, .int .u32 t152, .int .u32 t153]] (by rfl) rfl rfl (by (try simp only [List.map_toArray, List.map_cons, List.map_nil]); first | done | rfl | (simp only [List.length_drop, List.length_take]; rfl)) ?_
        with_reducible refine (arrearsref03_Less.calls t138 t139 t140 t141 t142 t143 t144 t145 t146 t147 t148 t149 t150 t151 t152 t153 t221 _ A312.out).mono ?_
        rintro e w339 ⟨rfl, hb⟩
        refine ⟨_, rfl, ?_⟩
        have n0_ := Aside0.mk (wrq BK136.out hb)
        have n1_ := Aside0.mk (wrq BK137.out hb)
        have n2_ := Aside0.mk (wrq BK154.out hb)
        have n3_ := Aside0.mk (wrq BK155.out hb)
        have n4_ := Aside0.mk (wrq BK159.out hb)
        have n5_ := Aside0.mk (wrq BK169.out hb)
        have n6_ := Aside0.mk (wrq BK173.out hb)
        have n7_ := Aside0.mk (wrq BK191.out hb)
        have n8_ := Aside0.mk (wrq BK207.out hb)
        have n9_ := Aside0.mk (below_step (wrs HB.out) hb)
        clear BK136
        clear BK137
        clear BK154
        clear BK155
        clear BK159
        clear BK169
        clear BK173
        clear BK191
        clear BK207
        clear HB
        have BK136 := n0_
        have BK137 := n1_
        have BK154 := n2_
        have BK155 := n3_
        have BK159 := n4_
        have BK169 := n5_
        have BK173 := n6_
        have BK191 := n7_
        have BK207 := n8_
        have HB := n9_
        clear n0_ n1_ n2_ n3_ n4_ n5_ n6_ n7_ n8_ n9_
        (try clear hb)
        (try clear hb2)
        (try clear hk)
        (try clear hi)
        refine hK.out _ _ ⟨(blk_cell BK136.out 0).trans rfl, (blk_cell BK136.out 1).trans rfl, (blk_cell BK137.out 0).trans rfl, (blk_cell BK137.out 1).trans rfl, (blk_cell BK154.out 0).trans rfl, (blk_cell BK154.out 1).trans rfl, (blk_cell BK154.out 2).trans rfl, (blk_cell BK154.out 3).trans rfl, (blk_cell BK154.out 4).trans rfl, (blk_cell BK154.out 5).trans rfl, (blk_cell BK154.out 6).trans rfl, (blk_cell BK154.out 7).trans rfl, (blk_cell BK155.out 0).trans rfl, (blk_cell BK155.out 1).trans rfl, (blk_cell BK155.out 2).trans rfl, (blk_cell BK155.out 3).trans rfl, (blk_cell BK155.out 4).trans rfl, (blk_cell BK155.out 5).trans rfl, (blk_cell BK155.out 6).trans rfl, (blk_cell BK155.out 7).trans rfl⟩ (fun hHeld => ?_)
        clear hK K
        refine norm_ (a' := ?_) ?_ ?_
        rotate_left
        ·
         show Act.put _ (some 147) _ = _
         simp only [Act.put, List.setIfInBounds_toArray, List.set_cons_zero, List.set_cons_succ, i64_w, i32_w]
         rfl
        refine pure_ (i := 19) (N := some 148) (v := ?_) (a' := ?_) #[T_,T_,T_,T_,T_,T_,T_,T_,T_,T_,T_,T_,T_,T_,T_,T_,T_,T_,T_,T_,F_,F_] rfl rfl (any_of HT_.out (by kernel_rfl)) (fun _ _ _ h => h) (Or.inl ⟨by rfl, ?_⟩) ?_ ?_
        rotate_left
        ·
         intro w'
         go_simp
         with_reducible rfl
        rotate_left
        ·
         simp only [Act.put, List.setIfInBounds_toArray, List.set_cons_zero, List.set_cons_succ, i64_w, i32_w]
         rfl
        refine pure_ (i := 20) (N := some 149) (v := ?_) (a' := ?_) #[T_,T_,T_,T_,T_,T_,T_,T_,T_,T_,T_,T_,T_,T_,T_,T_,T_,T_,T_,T_,T_,F_] rfl rfl (any_of HT_.out (by kernel_rfl)) (fun _ _ _ h => h) (Or.inl ⟨by rfl, ?_⟩) ?_ ?_
        rotate_left
        ·
         intro w'
         go_simp
         with_reducible rfl
        rotate_left
        ·
         simp only [Act.put, List.setIfInBounds_toArray, List.set_cons_zero, List.set_cons_succ, i64_w, i32_w]
         rfl
        refine pure_ (i := 21) (N := some 10) (v := ?_) (a' := ?_) #[T_,T_,T_,T_,T_,T_,T_,T_,T_,T_,T_,T_,T_,T_,T_,T_,T_,T_,T_,T_,T_,T_] rfl rfl (any_of HT_.out (by kernel_rfl)) (fun _ _ _ h => h) (Or.inl ⟨by rfl, ?_⟩) ?_ ?_
        rotate_left
        ·
         intro w'
         go_simp
         with_reducible rfl
        rotate_left
        ·
         simp only [Act.put, List.setIfInBounds_toArray, List.set_cons_zero, List.set_cons_succ, i64_w, i32_w]
         rfl
        refine done_ (done_of HT_.out (by kernel_rfl)) ?_
        (try simp only [errW_none, errW_some])
        try go_wp2
        go_ret
        exact ⟨by first | rfl | (simp [errW_none, errW_some] <;> rfl) | (simp [*, errW_none, errW_some] <;> rfl), by repeat (first | (with_reducible first | exact HB.out | apply below_alloc | apply pw_below_drewN | apply below_drew1 | refine below_set ?_ GE136.out | refine below_set ?_ GE137.out | refine below_set ?_ GE154.out | refine below_set ?_ GE155.out | refine below_set ?_ GE159.out | refine below_set ?_ GE169.out | refine below_set ?_ GE173.out | refine below_set ?_ GE191.out | refine below_set ?_ GE207.out) | exact HB.out)⟩
       ·
        replace c310 := Bool.eq_false_iff.mpr c310
        subst c310
        have H1 : (some false) = some r := by rw [if_neg (show ¬ (false = true) by decide)] at H; exact H
        clear H
        have H := H1
        clear H1
        exact absurd (H.trans (congrArg some HR.out)) (by simp)
      ·
       rw [if_neg c306] at H
       have c306b0 : (t208 == 1) = false := beq_eq_false_iff_ne.mpr c306
       have c306b1 : (t208 != 1) = true := bne_iff_ne.mpr c306
       exact absurd (H.trans (congrArg some HR.out)) (by simp)
     ·
      rw [if_neg c304] at H
      have c304b0 : (a4 == 0) = false := beq_eq_false_iff_ne.mpr c304
      have c304b1 : (a4 != 0) = true := bne_iff_ne.mpr c304
      replace H := Option.bind_eq_some_iff.mp H
      obtain ⟨⟨t222, t223, t224, t225, t226, t227, t228, t229, t230⟩, A3870, H⟩ := H
      (try dsimp only at H)
      have A387 := Aside0.mk A3870
      clear A3870
      rcases t206 with _ | q232
      ·
       rw [if_pos (show (none : Option Int).isNone = true by rfl)] at H
       have H1 := H
       clear H
       have H := H1
       clear H1
       try simp only [errW_none, errW_some]
       replace H := Option.bind_eq_some_iff.mp H
       obtain ⟨t233, A3880, H⟩ := H
       (try dsimp only at H)
       have A388 := Aside0.mk A3880
       clear A3880
       by_cases c389 : t233 = true
       ·
        subst c389
        rw [if_pos rfl] at H
        have H1 := H
        clear H
        have H := H1
        clear H1
        by_cases c390 : t205 = t230
        ·
         rw [if_pos c390] at H
         have c390b0 : (t205 == t230) = true := beq_iff_eq.mpr c390
         have c390b1 : (t205 != t230) = false := bne_eq_false_iff_eq.mpr c390
         clear c390
         replace H := Option.bind_eq_some_iff.mp H
         obtain ⟨⟨t234, t235⟩, A3910, H⟩ := H
         (try dsimp only at H)
         have A391 := Aside0.mk A3910
         clear A3910
         replace H := Option.bind_eq_some_iff.mp H
         obtain ⟨⟨t236, t237, t238, t239, t240, t241, t242, t243⟩, A3920, H⟩ := H
         (try dsimp only at H)
         have A392 := Aside0.mk A3920
         clear A3920
         replace H := Option.bind_eq_some_iff.mp H
         obtain ⟨t244, A3930, H⟩ := H
         replace H : (if t244 = true then ((wide_Wide_Less.f a0 a1 a2 a3).bind fun t245 => ((arrearsref03_Less.f t138 t139 t140 t141 t142 t143 t144 t145 t146 t147 t148 t149 t150 t151 t152 t153).bind fun t246 => (some (t245 == t246)))) else (some false)) = some r := H
         have A393 := Aside0.mk A3930
         clear A3930
         by_cases c394 : t244 = true
         ·
          subst c394
          have H1 : ((wide_Wide_Less.f a0 a1 a2 a3).bind fun t245 => ((arrearsref03_Less.f t138 t139 t140 t141 t142 t143 t144 t145 t146 t147 t148 t149 t150 t151 t152 t153).bind fun t246 => (some (t245 == t246)))) = some r := by rw [if_pos rfl] at H; exact H
          clear H
          have H := H1
          clear H1
          replace H := Option.bind_eq_some_iff.mp H
          obtain ⟨t245, A3950, H⟩ := H
          replace H : ((arrearsref03_Less.f t138 t139 t140 t141 t142 t143 t144 t145 t146 t147 t148 t149 t150 t151 t152 t153).bind fun t246 => (some (t245 == t246))) = some r := H
          have A395 := Aside0.mk A3950
          clear A3950
          replace H := Option.bind_eq_some_iff.mp H
          obtain ⟨t246, A3960, H⟩ := H
          replace H : (some (t245 == t246)) = some r := H
          have A396 := Aside0.mk A3960
          clear A3960
          obtain rfl := Option.some.inj H
          have hnb397 := NB136_137.out
          have hnc397 := NB137_136.out
          have hnb398 := NB136_154.out
          have hnc398 := NB154_136.out
          have hnb399 := NB136_155.out
          have hnc399 := NB155_136.out
          have hnb400 := NB136_159.out
          have hnc400 := NB159_136.out
          have hnb401 := NB136_169.out
          have hnc401 := NB169_136.out
          have hnb402 := NB136_173.out
          have hnc402 := NB173_136.out
          have hnb403 := NB136_191.out
          have hnc403 := NB191_136.out
          have hcz404_0 : wc.cell? ⟨gb136, 0, none⟩ = some (.int .u64 a0) := (blk_cell BK136.out 0).trans rfl
          have hcz404_1 : wc.cell? ⟨gb136, 1, none⟩ = some (.int .u64 a1) := (blk_cell BK136.out 1).trans rfl
          have hfz404_0 := blk_frozen BK136.out 0
          have hfz404_1 := blk_frozen BK136.out 1
          try go_wp2_with (first | ((with_reducible refine gate_callee (f := 14) rfl ?_); refine goesL_ (some 123) rfl rfl Tryd.func14 (by kernel_rfl) rfl #[.agg #[.int .u64 a0, .int .u64 a1], .int .u64 a4] rfl (by (try simp only [List.map_toArray, List.map_cons, List.map_nil]); first | done | rfl | (simp only [List.length_drop, List.length_take]; rfl)) ?_; (with_reducible refine (wide_Wide_Div.calls kj14 a0 a1 a4 t203 t204 t205 none _ A303.out).mono ?_); rintro e w405 ⟨rfl, hb⟩; refine ⟨_, rfl, ?_⟩; have n0_ := Aside0.mk (wrq BK136.out hb); have n1_ := Aside0.mk (wrq BK137.out hb); have n2_ := Aside0.mk (wrq BK154.out hb); have n3_ := Aside0.mk (wrq BK155.out hb); have n4_ := Aside0.mk (wrq BK159.out hb); have n5_ := Aside0.mk (wrq BK169.out hb); have n6_ := Aside0.mk (wrq BK173.out hb); have n7_ := Aside0.mk (wrq BK191.out hb); have n8_ := Aside0.mk (below_step (wrs HB.out) hb); clear BK136; clear BK137; clear BK154; clear BK155; clear BK159; clear BK169; clear BK173; clear BK191; clear HB; have BK136 := n0_; have BK137 := n1_; have BK154 := n2_; have BK155 := n3_; have BK159 := n4_; have BK169 := n5_; have BK173 := n6_; have BK191 := n7_; have HB := n8_; clear n0_ n1_ n2_ n3_ n4_ n5_ n6_ n7_ n8_; (try clear hb); (try clear hb2); (try clear hk); (try clear hi); (try simp only [errW_none, errW_some])) | ((with_reducible refine gate_dst (N := 23) rfl ?_); refine box_event ?hg (N := 23) ?hd (cs := #[.int .u64 0, .int .u64 0]) (t := 36) ?hr ?_; (case hd => rfl); (case hg => rfl); (case hr => first | (go_simp; done) | (go_simp; rfl)); intro gb207 hg w406 hbox hb; have n0_ := Aside0.mk (wrq BK136.out hb); have n1_ := Aside0.mk (wrq BK137.out hb); have n2_ := Aside0.mk (wrq BK154.out hb); have n3_ := Aside0.mk (wrq BK155.out hb); have n4_ := Aside0.mk (wrq BK159.out hb); have n5_ := Aside0.mk (wrq BK169.out hb); have n6_ := Aside0.mk (wrq BK173.out hb); have n7_ := Aside0.mk (wrq BK191.out hb); have n8_ := Aside0.mk (below_step (wrs HB.out) hb); have n9_ := Aside0.mk (hbox); have n10_ := Aside0.mk ((by rw [hg]; exact (below_size (wrs HB.out)) : w.heap.size ≤ gb207)); have n11_ := Aside0.mk ((by rw [hg]; exact (below_size (wrs HB.out)) : w.heap.size ≤ gb207)); have n12_ := Aside0.mk ((by rw [hg]; exact Nat.ne_of_lt (blk_lt (g := gb136) (o := .cells #[.int .u64 a0, .int .u64 a1] 36 (0, 0)) (wrx BK136.out)) : gb136 ≠ gb207)); have n13_ := Aside0.mk ((by rw [hg]; exact Nat.ne_of_gt (blk_lt (g := gb136) (o := .cells #[.int .u64 a0, .int .u64 a1] 36 (0, 0)) (wrx BK136.out)) : gb207 ≠ gb136)); have n14_ := Aside0.mk ((by rw [hg]; exact Nat.ne_of_lt (blk_lt (g := gb137) (o := .cells #[.int .u64 a2, .int .u64 a3] 36 (0, 0)) (wrx BK137.out)) : gb137 ≠ gb207)); have n15_ := Aside0.mk ((by rw [hg]; exact Nat.ne_of_gt (blk_lt (g := gb137) (o := .cells #[.int .u64 a2, .int .u64 a3] 36 (0, 0)) (wrx BK137.out)) : gb207 ≠ gb137)); have n16_ := Aside0.mk ((by rw [hg]; exact Nat.ne_of_lt (blk_lt (g := gb154) (o := .cells #[.int .u32 t138, .int .u32 t139, .int .u32 t140, .int .u32 t141, .int .u32 t142, .int .u32 t143, .int .u32 t144, .int .u32 t145] 46 (0, 0)) (wrx BK154.out)) : gb154 ≠ gb207)); have n17_ := Aside0.mk ((by rw [hg]; exact Nat.ne_of_gt (blk_lt (g := gb154) (o := .cells #[.int .u32 t138, .int .u32 t139, .int .u32 t140, .int .u32 t141, .int .u32 t142, .int .u32 t143, .int .u32 t144, .int .u32 t145] 46 (0, 0)) (wrx BK154.out)) : gb207 ≠ gb154)); have n18_ := Aside0.mk ((by rw [hg]; exact Nat.ne_of_lt (blk_lt (g := gb155) (o := .cells #[.int .u32 t146, .int .u32 t147, .int .u32 t148, .int .u32 t149, .int .u32 t150, .int .u32 t151, .int .u32 t152, .int .u32 t153] 46 (0, 0)) (wrx BK155.out)) : gb155 ≠ gb207)); have n19_ := Aside0.mk ((by rw [hg]; exact Nat.ne_of_gt (blk_lt (g := gb155) (o := .cells #[.int .u32 t146, .int .u32 t147, .int .u32 t148, .int .u32 t149, .int .u32 t150, .int .u32 t151, .int .u32 t152, .int .u32 t153] 46 (0, 0)) (wrx BK155.out)) : gb207 ≠ gb155)); have n20_ := Aside0.mk ((by rw [hg]; exact Nat.ne_of_lt (blk_lt (g := gb159) (o := .cells #[.int .u64 t156, .int .u64 t157] 36 (0, 0)) (wrx BK159.out)) : gb159 ≠ gb207)); have n21_ := Aside0.mk ((by rw [hg]; exact Nat.ne_of_gt (blk_lt (g := gb159) (o := .cells #[.int .u64 t156, .int .u64 t157] 36 (0, 0)) (wrx BK159.out)) : gb207 ≠ gb159)); have n22_ := Aside0.mk ((by rw [hg]; exact Nat.ne_of_lt (blk_lt (g := gb169) (o := .cells #[.int .u32 t160, .int .u32 t161, .int .u32 t162, .int .u32 t163, .int .u32 t164, .int .u32 t165, .int .u32 t166, .int .u32 t167] 46 (0, 0)) (wrx BK169.out)) : gb169 ≠ gb207)); have n23_ := Aside0.mk ((by rw [hg]; exact Nat.ne_of_gt (blk_lt (g := gb169) (o := .cells #[.int .u32 t160, .int .u32 t161, .int .u32 t162, .int .u32 t163, .int .u32 t164, .int .u32 t165, .int .u32 t166, .int .u32 t167] 46 (0, 0)) (wrx BK169.out)) : gb207 ≠ gb169)); have n24_ := Aside0.mk ((by rw [hg]; exact Nat.ne_of_lt (blk_lt (g := gb173) (o := .cells #[.int .u64 t170, .int .u64 t171] 36 (0, 0)) (wrx BK173.out)) : gb173 ≠ gb207)); have n25_ := Aside0.mk ((by rw [hg]; exact Nat.ne_of_gt (blk_lt (g := gb173) (o := .cells #[.int .u64 t170, .int .u64 t171] 36 (0, 0)) (wrx BK173.out)) : gb207 ≠ gb173)); have n26_ := Aside0.mk ((by rw [hg]; exact Nat.ne_of_lt (blk_lt (g := gb191) (o := .cells #[.int .u32 t182, .int .u32 t183, .int .u32 t184, .int .u32 t185, .int .u32 t186, .int .u32 t187, .int .u32 t188, .int .u32 t189] 46 (0, 0)) (wrx BK191.out)) : gb191 ≠ gb207)); have n27_ := Aside0.mk ((by rw [hg]; exact Nat.ne_of_gt (blk_lt (g := gb191) (o := .cells #[.int .u32 t182, .int .u32 t183, .int .u32 t184, .int .u32 t185, .int .u32 t186, .int .u32 t187, .int .u32 t188, .int .u32 t189] 46 (0, 0)) (wrx BK191.out)) : gb207 ≠ gb191)); clear BK136; clear BK137; clear BK154; clear BK155; clear BK159; clear BK169; clear BK173; clear BK191; clear HB; have BK136 := n0_; have BK137 := n1_; have BK154 := n2_; have BK155 := n3_; have BK159 := n4_; have BK169 := n5_; have BK173 := n6_; have BK191 := n7_; have HB := n8_; have BK207 := n9_; have GW207 := n10_; have GE207 := n11_; have NB136_207 := n12_; have NB207_136 := n13_; have NB137_207 := n14_; have NB207_137 := n15_; have NB154_207 := n16_; have NB207_154 := n17_; have NB155_207 := n18_; have NB207_155 := n19_; have NB159_207 := n20_; have NB207_159 := n21_; have NB169_207 := n22_; have NB207_169 := n23_; have NB173_207 := n24_; have NB207_173 := n25_; have NB191_207 := n26_; have NB207_191 := n27_; clear n0_ n1_ n2_ n3_ n4_ n5_ n6_ n7_ n8_ n9_ n10_ n11_ n12_ n13_ n14_ n15_ n16_ n17_ n18_ n19_ n20_ n21_ n22_ n23_ n24_ n25_ n26_ n27_; clear hb hbox hg; have hnb407 := NB207_136.out; have hnc407 := NB136_207.out; have hnb408 := NB207_137.out; have hnc408 := NB137_207.out; have hnb409 := NB207_154.out; have hnc409 := NB154_207.out; have hnb410 := NB207_155.out; have hnc410 := NB155_207.out; have hnb411 := NB207_159.out; have hnc411 := NB159_207.out; have hnb412 := NB207_169.out; have hnc412 := NB169_207.out; have hnb413 := NB207_173.out; have hnc413 := NB173_207.out; have hnb414 := NB207_191.out; have hnc414 := NB191_207.out; have hcz415_0 : w406.cell? ⟨gb207, 0, none⟩ = some (.int .u64 0) := (blk_cell BK207.out 0).trans rfl; have hcz415_1 : w406.cell? ⟨gb207, 1, none⟩ = some (.int .u64 0) := (blk_cell BK207.out 1).trans rfl; have hfz415_0 := blk_frozen BK207.out 0; have hfz415_1 := blk_frozen BK207.out 1; have hnb416 := NB154_137.out; have hnc416 := NB137_154.out; have hnb417 := NB154_155.out; have hnc417 := NB155_154.out; have hnb418 := NB154_159.out; have hnc418 := NB159_154.out; have hnb419 := NB154_169.out; have hnc419 := NB169_154.out; have hnb420 := NB154_173.out; have hnc420 := NB173_154.out; have hnb421 := NB154_191.out; have hnc421 := NB191_154.out; have hcz422_0 : w406.cell? ⟨gb154, 0, none⟩ = some (.int .u32 t138) := (blk_cell BK154.out 0).trans rfl; have hcz422_1 : w406.cell? ⟨gb154, 1, none⟩ = some (.int .u32 t139) := (blk_cell BK154.out 1).trans rfl; have hcz422_2 : w406.cell? ⟨gb154, 2, none⟩ = some (.int .u32 t140) := (blk_cell BK154.out 2).trans rfl; have hcz422_3 : w406.cell? ⟨gb154, 3, none⟩ = some (.int .u32 t141) := (blk_cell BK154.out 3).trans rfl; have hcz422_4 : w406.cell? ⟨gb154, 4, none⟩ = some (.int .u32 t142) := (blk_cell BK154.out 4).trans rfl; have hcz422_5 : w406.cell? ⟨gb154, 5, none⟩ = some (.int .u32 t143) := (blk_cell BK154.out 5).trans rfl; have hcz422_6 : w406.cell? ⟨gb154, 6, none⟩ = some (.int .u32 t144) := (blk_cell BK154.out 6).trans rfl; have hcz422_7 : w406.cell? ⟨gb154, 7, none⟩ = some (.int .u32 t145) := (blk_cell BK154.out 7).trans rfl; have hfz422_0 := blk_frozen BK154.out 0; have hfz422_1 := blk_frozen BK154.out 1; have hfz422_2 := blk_frozen BK154.out 2; have hfz422_3 := blk_frozen BK154.out 3; have hfz422_4 := blk_frozen BK154.out 4; have hfz422_5 := blk_frozen BK154.out 5; have hfz422_6 := blk_frozen BK154.out 6; have hfz422_7 := blk_frozen BK154.out 7) | ((with_reducible refine gate_callee (f := 24) rfl ?_); refine goesL_ (some 153) rfl rfl Tryd.func24 (by kernel_rfl) rfl #[.agg #[.int .u32 t138, .int .u32 t139, .int .u32 t140, .int .u32 t141, .int .u32 t142, .int .u32 t143, .int .u32 t144, .int .u32 t145], .int .u64 a4] rfl (by (try simp only [List.map_toArray, List.map_cons, List.map_nil]); first | done | rfl | (simp only [List.length_drop, List.length_take]; rfl)) ?_; (with_reducible refine (arrearsref03_Div.calls t138 t139 t140 t141 t142 t143 t144 t145 a4 t222 t223 t224 t225 t226 t227 t228 t229 t230 _ A387.out).mono ?_); rintro e w423 ⟨rfl, hb⟩; refine ⟨_, rfl, ?_⟩; have n0_ := Aside0.mk (blk_below (wrf BK136.out) hb); have n1_ := Aside0.mk (blk_below (wrf BK137.out) hb); have n2_ := Aside0.mk (blk_below (wrf BK154.out) hb); have n3_ := Aside0.mk (blk_below (wrf BK155.out) hb); have n4_ := Aside0.mk (blk_below (wrf BK159.out) hb); have n5_ := Aside0.mk (blk_below (wrf BK169.out) hb); have n6_ := Aside0.mk (blk_below (wrf BK173.out) hb); have n7_ := Aside0.mk (blk_below (wrf BK191.out) hb); have n8_ := Aside0.mk (blk_below (g := gb207) (o := .cells #[.int .u64 t203, .int .u64 t204] 36 (0, 0)) (by (with_reducible repeat (first | refine blk_drewN ?_ _ | refine blk_drew ?_ | refine blk_alloc ?_ _)); refine blk_put (cs := #[.int .u64 t203, .int .u64 0]) ?_ 1 _ rfl; (with_reducible repeat (first | refine blk_drewN ?_ _ | refine blk_drew ?_ | refine blk_alloc ?_ _)); refine blk_put (cs := #[.int .u64 0, .int .u64 0]) ?_ 0 _ rfl; (with_reducible repeat (first | refine blk_drewN ?_ _ | refine blk_drew ?_ | refine blk_alloc ?_ _)); exact BK207.out) hb); have n9_ := Aside0.mk (below_step (wrs HB.out) hb); clear BK136; clear BK137; clear BK154; clear BK155; clear BK159; clear BK169; clear BK173; clear BK191; clear BK207; clear HB; have BK136 := n0_; have BK137 := n1_; have BK154 := n2_; have BK155 := n3_; have BK159 := n4_; have BK169 := n5_; have BK173 := n6_; have BK191 := n7_; have BK207 := n8_; have HB := n9_; clear n0_ n1_ n2_ n3_ n4_ n5_ n6_ n7_ n8_ n9_; (try clear hb); (try clear hb2); (try clear hk); (try clear hi)) | ((with_reducible refine gate_dst (N := 26) rfl ?_); refine box_event ?hg (N := 26) ?hd (cs := #[.int .u32 0, .int .u32 0, .int .u32 0, .int .u32 0, .int .u32 0, .int .u32 0, .int .u32 0, .int .u32 0]) (t := 46) ?hr ?_; (case hd => rfl); (case hg => rfl); (case hr => first | (go_simp; done) | (go_simp; rfl)); intro gb231 hg w424 hbox hb; have n0_ := Aside0.mk (wrq BK136.out hb); have n1_ := Aside0.mk (wrq BK137.out hb); have n2_ := Aside0.mk (wrq BK154.out hb); have n3_ := Aside0.mk (wrq BK155.out hb); have n4_ := Aside0.mk (wrq BK159.out hb); have n5_ := Aside0.mk (wrq BK169.out hb); have n6_ := Aside0.mk (wrq BK173.out hb); have n7_ := Aside0.mk (wrq BK191.out hb); have n8_ := Aside0.mk (wrq BK207.out hb); have n9_ := Aside0.mk (below_step (wrs HB.out) hb); have n10_ := Aside0.mk (hbox); have n11_ := Aside0.mk ((by rw [hg]; exact (below_size (wrs HB.out)) : w.heap.size ≤ gb231)); have n12_ := Aside0.mk ((by rw [hg]; exact (below_size (wrs HB.out)) : w.heap.size ≤ gb231)); have n13_ := Aside0.mk ((by rw [hg]; exact Nat.ne_of_lt (blk_lt (g := gb136) (o := .cells #[.int .u64 a0, .int .u64 a1] 36 (0, 0)) (wrx BK136.out)) : gb136 ≠ gb231)); have n14_ := Aside0.mk ((by rw [hg]; exact Nat.ne_of_gt (blk_lt (g := gb136) (o := .cells #[.int .u64 a0, .int .u64 a1] 36 (0, 0)) (wrx BK136.out)) : gb231 ≠ gb136)); have n15_ := Aside0.mk ((by rw [hg]; exact Nat.ne_of_lt (blk_lt (g := gb137) (o := .cells #[.int .u64 a2, .int .u64 a3] 36 (0, 0)) (wrx BK137.out)) : gb137 ≠ gb231)); have n16_ := Aside0.mk ((by rw [hg]; exact Nat.ne_of_gt (blk_lt (g := gb137) (o := .cells #[.int .u64 a2, .int .u64 a3] 36 (0, 0)) (wrx BK137.out)) : gb231 ≠ gb137)); have n17_ := Aside0.mk ((by rw [hg]; exact Nat.ne_of_lt (blk_lt (g := gb154) (o := .cells #[.int .u32 t138, .int .u32 t139, .int .u32 t140, .int .u32 t141, .int .u32 t142, .int .u32 t143, .int .u32 t144, .int .u32 t145] 46 (0, 0)) (wrx BK154.out)) : gb154 ≠ gb231)); have n18_ := Aside0.mk ((by rw [hg]; exact Nat.ne_of_gt (blk_lt (g := gb154) (o := .cells #[.int .u32 t138, .int .u32 t139, .int .u32 t140, .int .u32 t141, .int .u32 t142, .int .u32 t143, .int .u32 t144, .int .u32 t145] 46 (0, 0)) (wrx BK154.out)) : gb231 ≠ gb154)); have n19_ := Aside0.mk ((by rw [hg]; exact Nat.ne_of_lt (blk_lt (g := gb155) (o := .cells #[.int .u32 t146, .int .u32 t147, .int .u32 t148, .int .u32 t149, .int .u32 t150, .int .u32 t151, .int .u32 t152, .int .u32 t153] 46 (0, 0)) (wrx BK155.out)) : gb155 ≠ gb231)); have n20_ := Aside0.mk ((by rw [hg]; exact Nat.ne_of_gt (blk_lt (g := gb155) (o := .cells #[.int .u32 t146, .int .u32 t147, .int .u32 t148, .int .u32 t149, .int .u32 t150, .int .u32 t151, .int .u32 t152, .int .u32 t153] 46 (0, 0)) (wrx BK155.out)) : gb231 ≠ gb155)); have n21_ := Aside0.mk ((by rw [hg]; exact Nat.ne_of_lt (blk_lt (g := gb159) (o := .cells #[.int .u64 t156, .int .u64 t157] 36 (0, 0)) (wrx BK159.out)) : gb159 ≠ gb231)); have n22_ := Aside0.mk ((by rw [hg]; exact Nat.ne_of_gt (blk_lt (g := gb159) (o := .cells #[.int .u64 t156, .int .u64 t157] 36 (0, 0)) (wrx BK159.out)) : gb231 ≠ gb159)); have n23_ := Aside0.mk ((by rw [hg]; exact Nat.ne_of_lt (blk_lt (g := gb169) (o := .cells #[.int .u32 t160, .int .u32 t161, .int .u32 t162, .int .u32 t163, .int .u32 t164, .int .u32 t165, .int .u32 t166, .int .u32 t167] 46 (0, 0)) (wrx BK169.out)) : gb169 ≠ gb231)); have n24_ := Aside0.mk ((by rw [hg]; exact Nat.ne_of_gt (blk_lt (g := gb169) (o := .cells #[.int .u32 t160, .int .u32 t161, .int .u32 t162, .int .u32 t163, .int .u32 t164, .int .u32 t165, .int .u32 t166, .int .u32 t167] 46 (0, 0)) (wrx BK169.out)) : gb231 ≠ gb169)); have n25_ := Aside0.mk ((by rw [hg]; exact Nat.ne_of_lt (blk_lt (g := gb173) (o := .cells #[.int .u64 t170, .int .u64 t171] 36 (0, 0)) (wrx BK173.out)) : gb173 ≠ gb231)); have n26_ := Aside0.mk ((by rw [hg]; exact Nat.ne_of_gt (blk_lt (g := gb173) (o := .cells #[.int .u64 t170, .int .u64 t171] 36 (0, 0)) (wrx BK173.out)) : gb231 ≠ gb173)); have n27_ := Aside0.mk ((by rw [hg]; exact Nat.ne_of_lt (blk_lt (g := gb191) (o := .cells #[.int .u32 t182, .int .u32 t183, .int .u32 t184, .int .u32 t185, .int .u32 t186, .int .u32 t187, .int .u32 t188, .int .u32 t189] 46 (0, 0)) (wrx BK191.out)) : gb191 ≠ gb231)); have n28_ := Aside0.mk ((by rw [hg]; exact Nat.ne_of_gt (blk_lt (g := gb191) (o := .cells #[.int .u32 t182, .int .u32 t183, .int .u32 t184, .int .u32 t185, .int .u32 t186, .int .u32 t187, .int .u32 t188, .int .u32 t189] 46 (0, 0)) (wrx BK191.out)) : gb231 ≠ gb191)); have n29_ := Aside0.mk ((by rw [hg]; exact Nat.ne_of_lt (blk_lt (g := gb207) (o := .cells #[.int .u64 t203, .int .u64 t204] 36 (0, 0)) (wrx BK207.out)) : gb207 ≠ gb231)); have n30_ := Aside0.mk ((by rw [hg]; exact Nat.ne_of_gt (blk_lt (g := gb207) (o := .cells #[.int .u64 t203, .int .u64 t204] 36 (0, 0)) (wrx BK207.out)) : gb231 ≠ gb207)); clear BK136; clear BK137; clear BK154; clear BK155; clear BK159; clear BK169; clear BK173; clear BK191; clear BK207; clear HB; have BK136 := n0_; have BK137 := n1_; have BK154 := n2_; have BK155 := n3_; have BK159 := n4_; have BK169 := n5_; have BK173 := n6_; have BK191 := n7_; have BK207 := n8_; have HB := n9_; have BK231 := n10_; have GW231 := n11_; have GE231 := n12_; have NB136_231 := n13_; have NB231_136 := n14_; have NB137_231 := n15_; have NB231_137 := n16_; have NB154_231 := n17_; have NB231_154 := n18_; have NB155_231 := n19_; have NB231_155 := n20_; have NB159_231 := n21_; have NB231_159 := n22_; have NB169_231 := n23_; have NB231_169 := n24_; have NB173_231 := n25_; have NB231_173 := n26_; have NB191_231 := n27_; have NB231_191 := n28_; have NB207_231 := n29_; have NB231_207 := n30_; clear n0_ n1_ n2_ n3_ n4_ n5_ n6_ n7_ n8_ n9_ n10_ n11_ n12_ n13_ n14_ n15_ n16_ n17_ n18_ n19_ n20_ n21_ n22_ n23_ n24_ n25_ n26_ n27_ n28_ n29_ n30_; clear hb hbox hg; have hnb425 := NB231_136.out; have hnc425 := NB136_231.out; have hnb426 := NB231_137.out; have hnc426 := NB137_231.out; have hnb427 := NB231_154.out; have hnc427 := NB154_231.out; have hnb428 := NB231_155.out; have hnc428 := NB155_231.out; have hnb429 := NB231_159.out; have hnc429 := NB159_231.out; have hnb430 := NB231_169.out; have hnc430 := NB169_231.out; have hnb431 := NB231_173.out; have hnc431 := NB173_231.out; have hnb432 := NB231_191.out; have hnc432 := NB191_231.out; have hnb433 := NB231_207.out; have hnc433 := NB207_231.out; have hcz434_0 : w424.cell? ⟨gb231, 0, none⟩ = some (.int .u32 0) := (blk_cell BK231.out 0).trans rfl; have hcz434_1 : w424.cell? ⟨gb231, 1, none⟩ = some (.int .u32 0) := (blk_cell BK231.out 1).trans rfl; have hcz434_2 : w424.cell? ⟨gb231, 2, none⟩ = some (.int .u32 0) := (blk_cell BK231.out 2).trans rfl; have hcz434_3 : w424.cell? ⟨gb231, 3, none⟩ = some (.int .u32 0) := (blk_cell BK231.out 3).trans rfl; have hcz434_4 : w424.cell? ⟨gb231, 4, none⟩ = some (.int .u32 0) := (blk_cell BK231.out 4).trans rfl; have hcz434_5 : w424.cell? ⟨gb231, 5, none⟩ = some (.int .u32 0) := (blk_cell BK231.out 5).trans rfl; have hcz434_6 : w424.cell? ⟨gb231, 6, none⟩ = some (.int .u32 0) := (blk_cell BK231.out 6).trans rfl; have hcz434_7 : w424.cell? ⟨gb231, 7, none⟩ = some (.int .u32 0) := (blk_cell BK231.out 7).trans rfl; have hfz434_0 := blk_frozen BK231.out 0; have hfz434_1 := blk_frozen BK231.out 1; have hfz434_2 := blk_frozen BK231.out 2; have hfz434_3 := blk_frozen BK231.out 3; have hfz434_4 := blk_frozen BK231.out 4; have hfz434_5 := blk_frozen BK231.out 5; have hfz434_6 := blk_frozen BK231.out 6; have hfz434_7 := blk_frozen BK231.out 7))
          have n0_ : Aside0 (((((((((w424.setCell ⟨gb231, 0, none⟩ (.int .u32 t222)).setCell ⟨gb231, 1, none⟩ (.int .u32 t223)).setCell ⟨gb231, 2, none⟩ (.int .u32 t224)).setCell ⟨gb231, 3, none⟩ (.int .u32 t225)).setCell ⟨gb231, 4, none⟩ (.int .u32 t226)).setCell ⟨gb231, 5, none⟩ (.int .u32 t227)).setCell ⟨gb231, 6, none⟩ (.int .u32 t228)).setCell ⟨gb231, 7, none⟩ (.int .u32 t229)).heap[gb136]? = some (.cells #[.int .u64 a0, .int .u64 a1] 36 (0, 0))) := ⟨wrf BK136.out⟩
          have n1_ : Aside0 (((((((((w424.setCell ⟨gb231, 0, none⟩ (.int .u32 t222)).setCell ⟨gb231, 1, none⟩ (.int .u32 t223)).setCell ⟨gb231, 2, none⟩ (.int .u32 t224)).setCell ⟨gb231, 3, none⟩ (.int .u32 t225)).setCell ⟨gb231, 4, none⟩ (.int .u32 t226)).setCell ⟨gb231, 5, none⟩ (.int .u32 t227)).setCell ⟨gb231, 6, none⟩ (.int .u32 t228)).setCell ⟨gb231, 7, none⟩ (.int .u32 t229)).heap[gb137]? = some (.cells #[.int .u64 a2, .int .u64 a3] 36 (0, 0))) := ⟨wrf BK137.out⟩
          have n2_ : Aside0 (((((((((w424.setCell ⟨gb231, 0, none⟩ (.int .u32 t222)).setCell ⟨gb231, 1, none⟩ (.int .u32 t223)).setCell ⟨gb231, 2, none⟩ (.int .u32 t224)).setCell ⟨gb231, 3, none⟩ (.int .u32 t225)).setCell ⟨gb231, 4, none⟩ (.int .u32 t226)).setCell ⟨gb231, 5, none⟩ (.int .u32 t227)).setCell ⟨gb231, 6, none⟩ (.int .u32 t228)).setCell ⟨gb231, 7, none⟩ (.int .u32 t229)).heap[gb154]? = some (.cells #[.int .u32 t138, .int .u32 t139, .int .u32 t140, .int .u32 t141, .int .u32 t142, .int .u32 t143, .int .u32 t144, .int .u32 t145] 46 (0, 0))) := ⟨wrf BK154.out⟩
          have n3_ : Aside0 (((((((((w424.setCell ⟨gb231, 0, none⟩ (.int .u32 t222)).setCell ⟨gb231, 1, none⟩ (.int .u32 t223)).setCell ⟨gb231, 2, none⟩ (.int .u32 t224)).setCell ⟨gb231, 3, none⟩ (.int .u32 t225)).setCell ⟨gb231, 4, none⟩ (.int .u32 t226)).setCell ⟨gb231, 5, none⟩ (.int .u32 t227)).setCell ⟨gb231, 6, none⟩ (.int .u32 t228)).setCell ⟨gb231, 7, none⟩ (.int .u32 t229)).heap[gb155]? = some (.cells #[.int .u32 t146, .int .u32 t147, .int .u32 t148, .int .u32 t149, .int .u32 t150, .int .u32 t151, .int .u32 t152, .int .u32 t153] 46 (0, 0))) := ⟨wrf BK155.out⟩
          have n4_ : Aside0 (((((((((w424.setCell ⟨gb231, 0, none⟩ (.int .u32 t222)).setCell ⟨gb231, 1, none⟩ (.int .u32 t223)).setCell ⟨gb231, 2, none⟩ (.int .u32 t224)).setCell ⟨gb231, 3, none⟩ (.int .u32 t225)).setCell ⟨gb231, 4, none⟩ (.int .u32 t226)).setCell ⟨gb231, 5, none⟩ (.int .u32 t227)).setCell ⟨gb231, 6, none⟩ (.int .u32 t228)).setCell ⟨gb231, 7, none⟩ (.int .u32 t229)).heap[gb159]? = some (.cells #[.int .u64 t156, .int .u64 t157] 36 (0, 0))) := ⟨wrf BK159.out⟩
          have n5_ : Aside0 (((((((((w424.setCell ⟨gb231, 0, none⟩ (.int .u32 t222)).setCell ⟨gb231, 1, none⟩ (.int .u32 t223)).setCell ⟨gb231, 2, none⟩ (.int .u32 t224)).setCell ⟨gb231, 3, none⟩ (.int .u32 t225)).setCell ⟨gb231, 4, none⟩ (.int .u32 t226)).setCell ⟨gb231, 5, none⟩ (.int .u32 t227)).setCell ⟨gb231, 6, none⟩ (.int .u32 t228)).setCell ⟨gb231, 7, none⟩ (.int .u32 t229)).heap[gb169]? = some (.cells #[.int .u32 t160, .int .u32 t161, .int .u32 t162, .int .u32 t163, .int .u32 t164, .int .u32 t165, .int .u32 t166, .int .u32 t167] 46 (0, 0))) := ⟨wrf BK169.out⟩
          have n6_ : Aside0 (((((((((w424.setCell ⟨gb231, 0, none⟩ (.int .u32 t222)).setCell ⟨gb231, 1, none⟩ (.int .u32 t223)).setCell ⟨gb231, 2, none⟩ (.int .u32 t224)).setCell ⟨gb231, 3, none⟩ (.int .u32 t225)).setCell ⟨gb231, 4, none⟩ (.int .u32 t226)).setCell ⟨gb231, 5, none⟩ (.int .u32 t227)).setCell ⟨gb231, 6, none⟩ (.int .u32 t228)).setCell ⟨gb231, 7, none⟩ (.int .u32 t229)).heap[gb173]? = some (.cells #[.int .u64 t170, .int .u64 t171] 36 (0, 0))) := ⟨wrf BK173.out⟩
          have n7_ : Aside0 (((((((((w424.setCell ⟨gb231, 0, none⟩ (.int .u32 t222)).setCell ⟨gb231, 1, none⟩ (.int .u32 t223)).setCell ⟨gb231, 2, none⟩ (.int .u32 t224)).setCell ⟨gb231, 3, none⟩ (.int .u32 t225)).setCell ⟨gb231, 4, none⟩ (.int .u32 t226)).setCell ⟨gb231, 5, none⟩ (.int .u32 t227)).setCell ⟨gb231, 6, none⟩ (.int .u32 t228)).setCell ⟨gb231, 7, none⟩ (.int .u32 t229)).heap[gb191]? = some (.cells #[.int .u32 t182, .int .u32 t183, .int .u32 t184, .int .u32 t185, .int .u32 t186, .int .u32 t187, .int .u32 t188, .int .u32 t189] 46 (0, 0))) := ⟨wrf BK191.out⟩
          have n8_ : Aside0 (((((((((w424.setCell ⟨gb231, 0, none⟩ (.int .u32 t222)).setCell ⟨gb231, 1, none⟩ (.int .u32 t223)).setCell ⟨gb231, 2, none⟩ (.int .u32 t224)).setCell ⟨gb231, 3, none⟩ (.int .u32 t225)).setCell ⟨gb231, 4, none⟩ (.int .u32 t226)).setCell ⟨gb231, 5, none⟩ (.int .u32 t227)).setCell ⟨gb231, 6, none⟩ (.int .u32 t228)).setCell ⟨gb231, 7, none⟩ (.int .u32 t229)).heap[gb207]? = some (.cells #[.int .u64 t203, .int .u64 t204] 36 (0, 0))) := ⟨wrf BK207.out⟩
          have n9_ : Aside0 (((((((((w424.setCell ⟨gb231, 0, none⟩ (.int .u32 t222)).setCell ⟨gb231, 1, none⟩ (.int .u32 t223)).setCell ⟨gb231, 2, none⟩ (.int .u32 t224)).setCell ⟨gb231, 3, none⟩ (.int .u32 t225)).setCell ⟨gb231, 4, none⟩ (.int .u32 t226)).setCell ⟨gb231, 5, none⟩ (.int .u32 t227)).setCell ⟨gb231, 6, none⟩ (.int .u32 t228)).setCell ⟨gb231, 7, none⟩ (.int .u32 t229)).heap[gb231]? = some (.cells #[.int .u32 t222, .int .u32 t223, .int .u32 t224, .int .u32 t225, .int .u32 t226, .int .u32 t227, .int .u32 t228, .int .u32 t229] 46 (0, 0))) := ⟨by (with_reducible repeat (first | refine blk_drewN ?_ _ | refine blk_drew ?_ | refine blk_alloc ?_ _)); refine blk_put (cs := #[.int .u32 t222, .int .u32 t223, .int .u32 t224, .int .u32 t225, .int .u32 t226, .int .u32 t227, .int .u32 t228, .int .u32 0]) ?_ 7 _ rfl; (with_reducible repeat (first | refine blk_drewN ?_ _ | refine blk_drew ?_ | refine blk_alloc ?_ _)); refine blk_put (cs := #[.int .u32 t222, .int .u32 t223, .int .u32 t224, .int .u32 t225, .int .u32 t226, .int .u32 t227, .int .u32 0, .int .u32 0]) ?_ 6 _ rfl; (with_reducible repeat (first | refine blk_drewN ?_ _ | refine blk_drew ?_ | refine blk_alloc ?_ _)); refine blk_put (cs := #[.int .u32 t222, .int .u32 t223, .int .u32 t224, .int .u32 t225, .int .u32 t226, .int .u32 0, .int .u32 0, .int .u32 0]) ?_ 5 _ rfl; (with_reducible repeat (first | refine blk_drewN ?_ _ | refine blk_drew ?_ | refine blk_alloc ?_ _)); refine blk_put (cs := #[.int .u32 t222, .int .u32 t223, .int .u32 t224, .int .u32 t225, .int .u32 0, .int .u32 0, .int .u32 0, .int .u32 0]) ?_ 4 _ rfl; (with_reducible repeat (first | refine blk_drewN ?_ _ | refine blk_drew ?_ | refine blk_alloc ?_ _)); refine blk_put (cs := #[.int .u32 t222, .int .u32 t223, .int .u32 t224, .int .u32 0, .int .u32 0, .int .u32 0, .int .u32 0, .int .u32 0]) ?_ 3 _ rfl; (with_reducible repeat (first | refine blk_drewN ?_ _ | refine blk_drew ?_ | refine blk_alloc ?_ _)); refine blk_put (cs := #[.int .u32 t222, .int .u32 t223, .int .u32 0, .int .u32 0, .int .u32 0, .int .u32 0, .int .u32 0, .int .u32 0]) ?_ 2 _ rfl; (with_reducible repeat (first | refine blk_drewN ?_ _ | refine blk_drew ?_ | refine blk_alloc ?_ _)); refine blk_put (cs := #[.int .u32 t222, .int .u32 0, .int .u32 0, .int .u32 0, .int .u32 0, .int .u32 0, .int .u32 0, .int .u32 0]) ?_ 1 _ rfl; (with_reducible repeat (first | refine blk_drewN ?_ _ | refine blk_drew ?_ | refine blk_alloc ?_ _)); refine blk_put (cs := #[.int .u32 0, .int .u32 0, .int .u32 0, .int .u32 0, .int .u32 0, .int .u32 0, .int .u32 0, .int .u32 0]) ?_ 0 _ rfl; (with_reducible repeat (first | refine blk_drewN ?_ _ | refine blk_drew ?_ | refine blk_alloc ?_ _)); exact BK231.out⟩
          have n10_ : Aside0 (Below w.heap.size w ((((((((w424.setCell ⟨gb231, 0, none⟩ (.int .u32 t222)).setCell ⟨gb231, 1, none⟩ (.int .u32 t223)).setCell ⟨gb231, 2, none⟩ (.int .u32 t224)).setCell ⟨gb231, 3, none⟩ (.int .u32 t225)).setCell ⟨gb231, 4, none⟩ (.int .u32 t226)).setCell ⟨gb231, 5, none⟩ (.int .u32 t227)).setCell ⟨gb231, 6, none⟩ (.int .u32 t228)).setCell ⟨gb231, 7, none⟩ (.int .u32 t229))) := ⟨wrs HB.out⟩
          (try clear BK136)
          (try clear BK137)
          (try clear BK154)
          (try clear BK155)
          (try clear BK159)
          (try clear BK169)
          (try clear BK173)
          (try clear BK191)
          (try clear BK207)
          (try clear BK231)
          (try clear HB)
          generalize ((((((((w424.setCell ⟨gb231, 0, none⟩ (.int .u32 t222)).setCell ⟨gb231, 1, none⟩ (.int .u32 t223)).setCell ⟨gb231, 2, none⟩ (.int .u32 t224)).setCell ⟨gb231, 3, none⟩ (.int .u32 t225)).setCell ⟨gb231, 4, none⟩ (.int .u32 t226)).setCell ⟨gb231, 5, none⟩ (.int .u32 t227)).setCell ⟨gb231, 6, none⟩ (.int .u32 t228)).setCell ⟨gb231, 7, none⟩ (.int .u32 t229)) = w435 at n0_ n1_ n2_ n3_ n4_ n5_ n6_ n7_ n8_ n9_ n10_ ⊢
          have BK136 := n0_
          have BK137 := n1_
          have BK154 := n2_
          have BK155 := n3_
          have BK159 := n4_
          have BK169 := n5_
          have BK173 := n6_
          have BK191 := n7_
          have BK207 := n8_
          have BK231 := n9_
          have HB := n10_
          clear n0_ n1_ n2_ n3_ n4_ n5_ n6_ n7_ n8_ n9_ n10_
          have n0_ := Aside0.mk (blk_drew BK136.out)
          have n1_ := Aside0.mk (blk_drew BK137.out)
          have n2_ := Aside0.mk (blk_drew BK154.out)
          have n3_ := Aside0.mk (blk_drew BK155.out)
          have n4_ := Aside0.mk (blk_drew BK159.out)
          have n5_ := Aside0.mk (blk_drew BK169.out)
          have n6_ := Aside0.mk (blk_drew BK173.out)
          have n7_ := Aside0.mk (blk_drew BK191.out)
          have n8_ := Aside0.mk (blk_drew BK207.out)
          have n9_ := Aside0.mk (blk_drew BK231.out)
          have n10_ := Aside0.mk (below_drew1 HB.out)
          clear BK136
          clear BK137
          clear BK154
          clear BK155
          clear BK159
          clear BK169
          clear BK173
          clear BK191
          clear BK207
          clear BK231
          clear HB
          have BK136 := n0_
          have BK137 := n1_
          have BK154 := n2_
          have BK155 := n3_
          have BK159 := n4_
          have BK169 := n5_
          have BK173 := n6_
          have BK191 := n7_
          have BK207 := n8_
          have BK231 := n9_
          have HB := n10_
          clear n0_ n1_ n2_ n3_ n4_ n5_ n6_ n7_ n8_ n9_ n10_
          refine start_ (n := 31) (S := fun w' => w'.cell? ⟨gb207, 0, none⟩ = some (.int .u64 t203) ∧ w'.cell? ⟨gb207, 1, none⟩ = some (.int .u64 t204) ∧ w'.cell? ⟨gb231, 0, none⟩ = some (.int .u32 t222) ∧ w'.cell? ⟨gb231, 1, none⟩ = some (.int .u32 t223) ∧ w'.cell? ⟨gb231, 2, none⟩ = some (.int .u32 t224) ∧ w'.cell? ⟨gb231, 3, none⟩ = some (.int .u32 t225) ∧ w'.cell? ⟨gb231, 4, none⟩ = some (.int .u32 t226) ∧ w'.cell? ⟨gb231, 5, none⟩ = some (.int .u32 t227) ∧ w'.cell? ⟨gb231, 6, none⟩ = some (.int .u32 t228) ∧ w'.cell? ⟨gb231, 7, none⟩ = some (.int .u32 t229) ∧ w'.cell? ⟨gb136, 0, none⟩ = some (.int .u64 a0) ∧ w'.cell? ⟨gb136, 1, none⟩ = some (.int .u64 a1) ∧ w'.cell? ⟨gb137, 0, none⟩ = some (.int .u64 a2) ∧ w'.cell? ⟨gb137, 1, none⟩ = some (.int .u64 a3) ∧ w'.cell? ⟨gb154, 0, none⟩ = some (.int .u32 t138) ∧ w'.cell? ⟨gb154, 1, none⟩ = some (.int .u32 t139) ∧ w'.cell? ⟨gb154, 2, none⟩ = some (.int .u32 t140) ∧ w'.cell? ⟨gb154, 3, none⟩ = some (.int .u32 t141) ∧ w'.cell? ⟨gb154, 4, none⟩ = some (.int .u32 t142) ∧ w'.cell? ⟨gb154, 5, none⟩ = some (.int .u32 t143) ∧ w'.cell? ⟨gb154, 6, none⟩ = some (.int .u32 t144) ∧ w'.cell? ⟨gb154, 7, none⟩ = some (.int .u32 t145) ∧ w'.cell? ⟨gb155, 0, none⟩ = some (.int .u32 t146) ∧ w'.cell? ⟨gb155, 1, none⟩ = some (.int .u32 t147) ∧ w'.cell? ⟨gb155, 2, none⟩ = some (.int .u32 t148) ∧ w'.cell? ⟨gb155, 3, none⟩ = some (.int .u32 t149) ∧ w'.cell? ⟨gb155, 4, none⟩ = some (.int .u32 t150) ∧ w'.cell? ⟨gb155, 5, none⟩ = some (.int .u32 t151) ∧ w'.cell? ⟨gb155, 6, none⟩ = some (.int .u32 t152) ∧ w'.cell? ⟨gb155, 7, none⟩ = some (.int .u32 t153)) (ds := []) #[F_,F_,F_,F_,F_,F_,F_,F_,F_,F_,F_,F_,F_,F_,F_,F_,F_,F_,F_,F_,F_,F_,F_,F_,F_,F_,F_,F_,F_,F_,F_] (by kernel_rfl) rfl rfl ⟨(blk_cell BK207.out 0).trans rfl, (blk_cell BK207.out 1).trans rfl, (blk_cell BK231.out 0).trans rfl, (blk_cell BK231.out 1).trans rfl, (blk_cell BK231.out 2).trans rfl, (blk_cell BK231.out 3).trans rfl, (blk_cell BK231.out 4).trans rfl, (blk_cell BK231.out 5).trans rfl, (blk_cell BK231.out 6).trans rfl, (blk_cell BK231.out 7).trans rfl, (blk_cell BK136.out 0).trans rfl, (blk_cell BK136.out 1).trans rfl, (blk_cell BK137.out 0).trans rfl, (blk_cell BK137.out 1).trans rfl, (blk_cell BK154.out 0).trans rfl, (blk_cell BK154.out 1).trans rfl, (blk_cell BK154.out 2).trans rfl, (blk_cell BK154.out 3).trans rfl, (blk_cell BK154.out 4).trans rfl, (blk_cell BK154.out 5).trans rfl, (blk_cell BK154.out 6).trans rfl, (blk_cell BK154.out 7).trans rfl, (blk_cell BK155.out 0).trans rfl, (blk_cell BK155.out 1).trans rfl, (blk_cell BK155.out 2).trans rfl, (blk_cell BK155.out 3).trans rfl, (blk_cell BK155.out 4).trans rfl, (blk_cell BK155.out 5).trans rfl, (blk_cell BK155.out 6).trans rfl, (blk_cell BK155.out 7).trans rfl⟩ (fun hHeld => ?_); refine with_tabW arrearslaw03_WideReckons.tab15 arrearslaw03_WideReckons.bits15 (fun HT_ HW_ => ?_)
          generalize w435.drew = w436 at BK136 BK137 BK154 BK155 BK159 BK169 BK173 BK191 BK207 BK231 HB hHeld ⊢
          refine pure_ (i := 0) (N := some 156) (v := ?_) (a' := ?_) #[T_,F_,F_,F_,F_,F_,F_,F_,F_,F_,F_,F_,F_,F_,F_,F_,F_,F_,F_,F_,F_,F_,F_,F_,F_,F_,F_,F_,F_,F_,F_] rfl rfl (any_of HT_.out (by kernel_rfl)) (fun _ _ _ h => h) (Or.inl ⟨by rfl, ?_⟩) ?_ ?_
          rotate_left
          ·
           intro w'
           go_simp
           with_reducible rfl
          rotate_left
          ·
           simp only [Act.put, List.setIfInBounds_toArray, List.set_cons_zero, List.set_cons_succ, i64_w, i32_w]
           rfl
          refine pure_ (i := 1) (N := some 157) (v := ?_) (a' := ?_) #[T_,T_,F_,F_,F_,F_,F_,F_,F_,F_,F_,F_,F_,F_,F_,F_,F_,F_,F_,F_,F_,F_,F_,F_,F_,F_,F_,F_,F_,F_,F_] rfl rfl (any_of HT_.out (by kernel_rfl)) (fun _ _ _ h => h) (Or.inl ⟨by rfl, ?_⟩) ?_ ?_
          rotate_left
          ·
           intro w'
           go_simp
           with_reducible rfl
          rotate_left
          ·
           simp only [Act.put, List.setIfInBounds_toArray, List.set_cons_zero, List.set_cons_succ, i64_w, i32_w]
           rfl
          refine pure_ (i := 2) (N := some 158) (v := ?_) (a' := ?_) #[T_,T_,T_,F_,F_,F_,F_,F_,F_,F_,F_,F_,F_,F_,F_,F_,F_,F_,F_,F_,F_,F_,F_,F_,F_,F_,F_,F_,F_,F_,F_] rfl rfl (any_of HT_.out (by kernel_rfl)) (fun _ _ _ h => h) (Or.inl ⟨by rfl, ?_⟩) ?_ ?_
          rotate_left
          ·
           intro w'
           go_simp
           with_reducible rfl
          rotate_left
          ·
           simp only [Act.put, List.setIfInBounds_toArray, List.set_cons_zero, List.set_cons_succ, i64_w, i32_w]
           rfl
          refine take_ (i := 3) (N := some 159) (v := ?_) (a' := ?_) #[T_,T_,T_,T_,F_,F_,F_,F_,F_,F_,F_,F_,F_,F_,F_,F_,F_,F_,F_,F_,F_,F_,F_,F_,F_,F_,F_,F_,F_,F_,F_] rfl rfl (take_ofW HT_.out HW_.out (by kernel_rfl)) (fun _ _ _ h => h) (Or.inl ⟨by rfl, ?_⟩) hHeld ?_ ?_
          rotate_left
          ·
           rintro w' ⟨s0, s1, s2, s3, s4, s5, s6, s7, s8, s9, s10, s11, s12, s13, s14, s15, s16, s17, s18, s19, s20, s21, s22, s23, s24, s25, s26, s27, s28, s29⟩
           go_simp
           with_reducible rfl
          rotate_left
          ·
           simp only [Act.put, List.setIfInBounds_toArray, List.set_cons_zero, List.set_cons_succ, i64_w, i32_w]
           rfl
          refine take_ (i := 4) (N := some 160) (v := ?_) (a' := ?_) #[T_,T_,T_,T_,T_,F_,F_,F_,F_,F_,F_,F_,F_,F_,F_,F_,F_,F_,F_,F_,F_,F_,F_,F_,F_,F_,F_,F_,F_,F_,F_] rfl rfl (take_ofW HT_.out HW_.out (by kernel_rfl)) (fun _ _ _ h => h) (Or.inl ⟨by rfl, ?_⟩) hHeld ?_ ?_
          rotate_left
          ·
           rintro w' ⟨s0, s1, s2, s3, s4, s5, s6, s7, s8, s9, s10, s11, s12, s13, s14, s15, s16, s17, s18, s19, s20, s21, s22, s23, s24, s25, s26, s27, s28, s29⟩
           go_simp
           with_reducible rfl
          rotate_left
          ·
           simp only [Act.put, List.setIfInBounds_toArray, List.set_cons_zero, List.set_cons_succ, i64_w, i32_w]
           rfl
          refine one_ (i := 5) (N := some 161) #[T_,T_,T_,T_,T_,T_,F_,F_,F_,F_,F_,F_,F_,F_,F_,F_,F_,F_,F_,F_,F_,F_,F_,F_,F_,F_,F_,F_,F_,F_,F_] rfl rfl (one_of HT_.out (by kernel_rfl)) (by decide) (fun K hK => ?_)
          refine goes_ Tryd.func20 (by kernel_rfl) rfl #[.agg #[.int .u64 t203, .int .u64 t204], .agg #[.int .u32 t222, .int .u32 t223, .int .u32 t224, .int .u32 t225, .int .u32 t226, .int .u32 t227, .int .u32 t228, .int .u32 t229]] (by rfl) rfl rfl (by (try simp only [List.map_toArray, List.map_cons, List.map_nil]); first | done | rfl | (simp only [List.length_drop, List.length_take]; rfl)) ?_
          with_reducible refine (arrearslaw03_same.calls t203 t204 t222 t223 t224 t225 t226 t227 t228 t229 true _ A388.out).mono ?_
          rintro e w437 ⟨rfl, hb⟩
          refine ⟨_, rfl, ?_⟩
          have n0_ := Aside0.mk (wrq BK136.out hb)
          have n1_ := Aside0.mk (wrq BK137.out hb)
          have n2_ := Aside0.mk (wrq BK154.out hb)
          have n3_ := Aside0.mk (wrq BK155.out hb)
          have n4_ := Aside0.mk (wrq BK159.out hb)
          have n5_ := Aside0.mk (wrq BK169.out hb)
          have n6_ := Aside0.mk (wrq BK173.out hb)
          have n7_ := Aside0.mk (wrq BK191.out hb)
          have n8_ := Aside0.mk (wrq BK207.out hb)
          have n9_ := Aside0.mk (wrq BK231.out hb)
          have n10_ := Aside0.mk (below_step (wrs HB.out) hb)
          clear BK136
          clear BK137
          clear BK154
          clear BK155
          clear BK159
          clear BK169
          clear BK173
          clear BK191
          clear BK207
          clear BK231
          clear HB
          have BK136 := n0_
          have BK137 := n1_
          have BK154 := n2_
          have BK155 := n3_
          have BK159 := n4_
          have BK169 := n5_
          have BK173 := n6_
          have BK191 := n7_
          have BK207 := n8_
          have BK231 := n9_
          have HB := n10_
          clear n0_ n1_ n2_ n3_ n4_ n5_ n6_ n7_ n8_ n9_ n10_
          (try clear hb)
          (try clear hb2)
          (try clear hk)
          (try clear hi)
          refine hK.out _ _ ⟨(blk_cell BK207.out 0).trans rfl, (blk_cell BK207.out 1).trans rfl, (blk_cell BK231.out 0).trans rfl, (blk_cell BK231.out 1).trans rfl, (blk_cell BK231.out 2).trans rfl, (blk_cell BK231.out 3).trans rfl, (blk_cell BK231.out 4).trans rfl, (blk_cell BK231.out 5).trans rfl, (blk_cell BK231.out 6).trans rfl, (blk_cell BK231.out 7).trans rfl, (blk_cell BK136.out 0).trans rfl, (blk_cell BK136.out 1).trans rfl, (blk_cell BK137.out 0).trans rfl, (blk_cell BK137.out 1).trans rfl, (blk_cell BK154.out 0).trans rfl, (blk_cell BK154.out 1).trans rfl, (blk_cell BK154.out 2).trans rfl, (blk_cell BK154.out 3).trans rfl, (blk_cell BK154.out 4).trans rfl, (blk_cell BK154.out 5).trans rfl, (blk_cell BK154.out 6).trans rfl, (blk_cell BK154.out 7).trans rfl, (blk_cell BK155.out 0).trans rfl, (blk_cell BK155.out 1).trans rfl, (blk_cell BK155.out 2).trans rfl, (blk_cell BK155.out 3).trans rfl, (blk_cell BK155.out 4).trans rfl, (blk_cell BK155.out 5).trans rfl, (blk_cell BK155.out 6).trans rfl, (blk_cell BK155.out 7).trans rfl⟩ (fun hHeld => ?_)
          clear hK K
          refine norm_ (a' := ?_) ?_ ?_
          rotate_left
          ·
           show Act.put _ (some 161) _ = _
           simp only [Act.put, List.setIfInBounds_toArray, List.set_cons_zero, List.set_cons_succ, i64_w, i32_w]
           rfl
          refine pure_ (i := 6) (N := some 162) (v := ?_) (a' := ?_) #[T_,T_,T_,T_,T_,T_,T_,F_,F_,F_,F_,F_,F_,F_,F_,F_,F_,F_,F_,F_,F_,F_,F_,F_,F_,F_,F_,F_,F_,F_,F_] rfl rfl (any_of HT_.out (by kernel_rfl)) (fun _ _ _ h => h) (Or.inl ⟨by rfl, ?_⟩) ?_ ?_
          rotate_left
          ·
           intro w'
           go_simp
           with_reducible rfl
          rotate_left
          ·
           simp only [Act.put, List.setIfInBounds_toArray, List.set_cons_zero, List.set_cons_succ, i64_w, i32_w]
           rfl
          refine pure_ (i := 7) (N := some 163) (v := ?_) (a' := ?_) #[T_,T_,T_,T_,T_,T_,T_,T_,F_,F_,F_,F_,F_,F_,F_,F_,F_,F_,F_,F_,F_,F_,F_,F_,F_,F_,F_,F_,F_,F_,F_] rfl rfl (any_of HT_.out (by kernel_rfl)) (fun _ _ _ h => h) (Or.inl ⟨by rfl, ?_⟩) ?_ ?_
          rotate_left
          ·
           intro w'
           go_simp
           with_reducible rfl
          rotate_left
          ·
           simp only [Act.put, List.setIfInBounds_toArray, List.set_cons_zero, List.set_cons_succ, i64_w, i32_w]
           rfl
          refine pure_ (i := 8) (N := some 164) (v := ?_) (a' := ?_) #[T_,T_,T_,T_,T_,T_,T_,T_,T_,F_,F_,F_,F_,F_,F_,F_,F_,F_,F_,F_,F_,F_,F_,F_,F_,F_,F_,F_,F_,F_,F_] rfl rfl (any_of HT_.out (by kernel_rfl)) (fun _ _ _ h => h) (Or.inl ⟨by rfl, ?_⟩) ?_ ?_
          rotate_left
          ·
           intro w'
           go_simp
           with_reducible rfl
          rotate_left
          ·
           simp only [Act.put, List.setIfInBounds_toArray, List.set_cons_zero, List.set_cons_succ, i64_w, i32_w]
           rfl
          refine pure_ (i := 9) (N := some 165) (v := ?_) (a' := ?_) #[T_,T_,T_,T_,T_,T_,T_,T_,T_,T_,F_,F_,F_,F_,F_,F_,F_,F_,F_,F_,F_,F_,F_,F_,F_,F_,F_,F_,F_,F_,F_] rfl rfl (any_of HT_.out (by kernel_rfl)) (fun _ _ _ h => h) (Or.inl ⟨by rfl, ?_⟩) ?_ ?_
          rotate_left
          ·
           intro w'
           go_simp
           with_reducible rfl
          rotate_left
          ·
           simp only [Act.put, List.setIfInBounds_toArray, List.set_cons_zero, List.set_cons_succ, i64_w, i32_w]
           rfl
          refine pure_ (i := 10) (N := some 166) (v := ?_) (a' := ?_) #[T_,T_,T_,T_,T_,T_,T_,T_,T_,T_,T_,F_,F_,F_,F_,F_,F_,F_,F_,F_,F_,F_,F_,F_,F_,F_,F_,F_,F_,F_,F_] rfl rfl (any_of HT_.out (by kernel_rfl)) (fun _ _ _ h => h) (Or.inl ⟨by rfl, ?_⟩) ?_ ?_
          rotate_left
          ·
           intro w'
           go_simp
           with_reducible rfl
          rotate_left
          ·
           simp only [Act.put, List.setIfInBounds_toArray, List.set_cons_zero, List.set_cons_succ, i64_w, i32_w]
           rfl
          refine pure_ (i := 11) (N := some 167) (v := ?_) (a' := ?_) #[T_,T_,T_,T_,T_,T_,T_,T_,T_,T_,T_,T_,F_,F_,F_,F_,F_,F_,F_,F_,F_,F_,F_,F_,F_,F_,F_,F_,F_,F_,F_] rfl rfl (any_of HT_.out (by kernel_rfl)) (fun _ _ _ h => h) (Or.inl ⟨by rfl, ?_⟩) ?_ ?_
          rotate_left
          ·
           intro w'
           go_simp
           with_reducible rfl
          rotate_left
          ·
           simp only [Act.put, List.setIfInBounds_toArray, List.set_cons_zero, List.set_cons_succ, i64_w, i32_w]
           rfl
          refine pure_ (i := 12) (N := some 168) (v := ?_) (a' := ?_) #[T_,T_,T_,T_,T_,T_,T_,T_,T_,T_,T_,T_,T_,F_,F_,F_,F_,F_,F_,F_,F_,F_,F_,F_,F_,F_,F_,F_,F_,F_,F_] rfl rfl (any_of HT_.out (by kernel_rfl)) (fun _ _ _ h => h) (Or.inl ⟨by rfl, ?_⟩) ?_ ?_
          rotate_left
          ·
           intro w'
           go_simp
           with_reducible rfl
          rotate_left
          ·
           simp only [Act.put, List.setIfInBounds_toArray, List.set_cons_zero, List.set_cons_succ, i64_w, i32_w]
           rfl
          refine pure_ (i := 13) (N := some 169) (v := ?_) (a' := ?_) #[T_,T_,T_,T_,T_,T_,T_,T_,T_,T_,T_,T_,T_,T_,F_,F_,F_,F_,F_,F_,F_,F_,F_,F_,F_,F_,F_,F_,F_,F_,F_] rfl rfl (any_of HT_.out (by kernel_rfl)) (fun _ _ _ h => h) (Or.inl ⟨by rfl, ?_⟩) ?_ ?_
          rotate_left
          ·
           intro w'
           go_simp
           with_reducible rfl
          rotate_left
          ·
           simp only [Act.put, List.setIfInBounds_toArray, List.set_cons_zero, List.set_cons_succ, i64_w, i32_w]
           rfl
          refine pure_ (i := 14) (N := some 170) (v := ?_) (a' := ?_) #[T_,T_,T_,T_,T_,T_,T_,T_,T_,T_,T_,T_,T_,T_,T_,F_,F_,F_,F_,F_,F_,F_,F_,F_,F_,F_,F_,F_,F_,F_,F_] rfl rfl (any_of HT_.out (by kernel_rfl)) (fun _ _ _ h => h) (Or.inl ⟨by rfl, ?_⟩) ?_ ?_
          rotate_left
          ·
           intro w'
           go_simp
           with_reducible rfl
          rotate_left
          ·
           simp only [Act.put, List.setIfInBounds_toArray, List.set_cons_zero, List.set_cons_succ, i64_w, i32_w]
           rfl
          refine pure_ (i := 16) (N := some 172) (v := ?_) (a' := ?_) #[T_,T_,T_,T_,T_,T_,T_,T_,T_,T_,T_,T_,T_,T_,T_,F_,T_,F_,F_,F_,F_,F_,F_,F_,F_,F_,F_,F_,F_,F_,F_] rfl rfl (any_of HT_.out (by kernel_rfl)) (fun _ _ _ h => h) (Or.inl ⟨by rfl, ?_⟩) ?_ ?_
          rotate_left
          ·
           intro w'
           go_simp
           with_reducible rfl
          rotate_left
          ·
           simp only [Act.put, List.setIfInBounds_toArray, List.set_cons_zero, List.set_cons_succ, i64_w, i32_w]
           rfl
          refine pure_ (i := 17) (N := some 173) (v := ?_) (a' := ?_) #[T_,T_,T_,T_,T_,T_,T_,T_,T_,T_,T_,T_,T_,T_,T_,F_,T_,T_,F_,F_,F_,F_,F_,F_,F_,F_,F_,F_,F_,F_,F_] rfl rfl (any_of HT_.out (by kernel_rfl)) (fun _ _ _ h => h) (Or.inl ⟨by rfl, ?_⟩) ?_ ?_
          rotate_left
          ·
           intro w'
           go_simp
           with_reducible rfl
          rotate_left
          ·
           simp only [Act.put, List.setIfInBounds_toArray, List.set_cons_zero, List.set_cons_succ, i64_w, i32_w]
           rfl
          refine one_ (i := 15) (N := some 171) #[T_,T_,T_,T_,T_,T_,T_,T_,T_,T_,T_,T_,T_,T_,T_,T_,T_,T_,F_,F_,F_,F_,F_,F_,F_,F_,F_,F_,F_,F_,F_] rfl rfl (one_of HT_.out (by kernel_rfl)) (by decide) (fun K hK => ?_)
          refine goes_ Tryd.func13 (by kernel_rfl) rfl #[.int .u64 a0, .int .u64 a2] (by rfl) rfl rfl (by (try simp only [List.map_toArray, List.map_cons, List.map_nil]); first | done | rfl | (simp only [List.length_drop, List.length_take]; rfl)) ?_
          with_reducible refine (wide_Mul.calls a0 a2 t234 t235 _ A391.out).mono ?_
          rintro e w438 ⟨rfl, hb⟩
          refine ⟨_, rfl, ?_⟩
          have n0_ := Aside0.mk (wrq BK136.out hb)
          have n1_ := Aside0.mk (wrq BK137.out hb)
          have n2_ := Aside0.mk (wrq BK154.out hb)
          have n3_ := Aside0.mk (wrq BK155.out hb)
          have n4_ := Aside0.mk (wrq BK159.out hb)
          have n5_ := Aside0.mk (wrq BK169.out hb)
          have n6_ := Aside0.mk (wrq BK173.out hb)
          have n7_ := Aside0.mk (wrq BK191.out hb)
          have n8_ := Aside0.mk (wrq BK207.out hb)
          have n9_ := Aside0.mk (wrq BK231.out hb)
          have n10_ := Aside0.mk (below_step (wrs HB.out) hb)
          clear BK136
          clear BK137
          clear BK154
          clear BK155
          clear BK159
          clear BK169
          clear BK173
          clear BK191
          clear BK207
          clear BK231
          clear HB
          have BK136 := n0_
          have BK137 := n1_
          have BK154 := n2_
          have BK155 := n3_
          have BK159 := n4_
          have BK169 := n5_
          have BK173 := n6_
          have BK191 := n7_
          have BK207 := n8_
          have BK231 := n9_
          have HB := n10_
          clear n0_ n1_ n2_ n3_ n4_ n5_ n6_ n7_ n8_ n9_ n10_
          (try clear hb)
          (try clear hb2)
          (try clear hk)
          (try clear hi)
          refine hK.out _ _ ⟨(blk_cell BK207.out 0).trans rfl, (blk_cell BK207.out 1).trans rfl, (blk_cell BK231.out 0).trans rfl, (blk_cell BK231.out 1).trans rfl, (blk_cell BK231.out 2).trans rfl, (blk_cell BK231.out 3).trans rfl, (blk_cell BK231.out 4).trans rfl, (blk_cell BK231.out 5).trans rfl, (blk_cell BK231.out 6).trans rfl, (blk_cell BK231.out 7).trans rfl, (blk_cell BK136.out 0).trans rfl, (blk_cell BK136.out 1).trans rfl, (blk_cell BK137.out 0).trans rfl, (blk_cell BK137.out 1).trans rfl, (blk_cell BK154.out 0).trans rfl, (blk_cell BK154.out 1).trans rfl, (blk_cell BK154.out 2).trans rfl, (blk_cell BK154.out 3).trans rfl, (blk_cell BK154.out 4).trans rfl, (blk_cell BK154.out 5).trans rfl, (blk_cell BK154.out 6).trans rfl, (blk_cell BK154.out 7).trans rfl, (blk_cell BK155.out 0).trans rfl, (blk_cell BK155.out 1).trans rfl, (blk_cell BK155.out 2).trans rfl, (blk_cell BK155.out 3).trans rfl, (blk_cell BK155.out 4).trans rfl, (blk_cell BK155.out 5).trans rfl, (blk_cell BK155.out 6).trans rfl, (blk_cell BK155.out 7).trans rfl⟩ (fun hHeld => ?_)
          clear hK K
          refine norm_ (a' := ?_) ?_ ?_
          rotate_left
          ·
           show Act.put _ (some 171) _ = _
           simp only [Act.put, List.setIfInBounds_toArray, List.set_cons_zero, List.set_cons_succ, i64_w, i32_w]
           rfl
          refine one_ (i := 18) (N := some 174) #[T_,T_,T_,T_,T_,T_,T_,T_,T_,T_,T_,T_,T_,T_,T_,T_,T_,T_,T_,F_,F_,F_,F_,F_,F_,F_,F_,F_,F_,F_,F_] rfl rfl (one_of HT_.out (by kernel_rfl)) (by decide) (fun K hK => ?_)
          refine goes_ Tryd.func21 (by kernel_rfl) rfl #[.int .u64 a0, .int .u64 a2] (by rfl) rfl rfl (by (try simp only [List.map_toArray, List.map_cons, List.map_nil]); first | done | rfl | (simp only [List.length_drop, List.length_take]; rfl)) ?_
          with_reducible refine (arrearsref03_Mul.calls a0 a2 t236 t237 t238 t239 t240 t241 t242 t243 _ A392.out).mono ?_
          rintro e w439 ⟨rfl, hb⟩
          refine ⟨_, rfl, ?_⟩
          have n0_ := Aside0.mk (wrq BK136.out hb)
          have n1_ := Aside0.mk (wrq BK137.out hb)
          have n2_ := Aside0.mk (wrq BK154.out hb)
          have n3_ := Aside0.mk (wrq BK155.out hb)
          have n4_ := Aside0.mk (wrq BK159.out hb)
          have n5_ := Aside0.mk (wrq BK169.out hb)
          have n6_ := Aside0.mk (wrq BK173.out hb)
          have n7_ := Aside0.mk (wrq BK191.out hb)
          have n8_ := Aside0.mk (wrq BK207.out hb)
          have n9_ := Aside0.mk (wrq BK231.out hb)
          have n10_ := Aside0.mk (below_step (wrs HB.out) hb)
          clear BK136
          clear BK137
          clear BK154
          clear BK155
          clear BK159
          clear BK169
          clear BK173
          clear BK191
          clear BK207
          clear BK231
          clear HB
          have BK136 := n0_
          have BK137 := n1_
          have BK154 := n2_
          have BK155 := n3_
          have BK159 := n4_
          have BK169 := n5_
          have BK173 := n6_
          have BK191 := n7_
          have BK207 := n8_
          have BK231 := n9_
          have HB := n10_
          clear n0_ n1_ n2_ n3_ n4_ n5_ n6_ n7_ n8_ n9_ n10_
          (try clear hb)
          (try clear hb2)
          (try clear hk)
          (try clear hi)
          refine hK.out _ _ ⟨(blk_cell BK207.out 0).trans rfl, (blk_cell BK207.out 1).trans rfl, (blk_cell BK231.out 0).trans rfl, (blk_cell BK231.out 1).trans rfl, (blk_cell BK231.out 2).trans rfl, (blk_cell BK231.out 3).trans rfl, (blk_cell BK231.out 4).trans rfl, (blk_cell BK231.out 5).trans rfl, (blk_cell BK231.out 6).trans rfl, (blk_cell BK231.out 7).trans rfl, (blk_cell BK136.out 0).trans rfl, (blk_cell BK136.out 1).trans rfl, (blk_cell BK137.out 0).trans rfl, (blk_cell BK137.out 1).trans rfl, (blk_cell BK154.out 0).trans rfl, (blk_cell BK154.out 1).trans rfl, (blk_cell BK154.out 2).trans rfl, (blk_cell BK154.out 3).trans rfl, (blk_cell BK154.out 4).trans rfl, (blk_cell BK154.out 5).trans rfl, (blk_cell BK154.out 6).trans rfl, (blk_cell BK154.out 7).trans rfl, (blk_cell BK155.out 0).trans rfl, (blk_cell BK155.out 1).trans rfl, (blk_cell BK155.out 2).trans rfl, (blk_cell BK155.out 3).trans rfl, (blk_cell BK155.out 4).trans rfl, (blk_cell BK155.out 5).trans rfl, (blk_cell BK155.out 6).trans rfl, (blk_cell BK155.out 7).trans rfl⟩ (fun hHeld => ?_)
          clear hK K
          refine norm_ (a' := ?_) ?_ ?_
          rotate_left
          ·
           show Act.put _ (some 174) _ = _
           simp only [Act.put, List.setIfInBounds_toArray, List.set_cons_zero, List.set_cons_succ, i64_w, i32_w]
           rfl
          refine one_ (i := 19) (N := some 175) #[T_,T_,T_,T_,T_,T_,T_,T_,T_,T_,T_,T_,T_,T_,T_,T_,T_,T_,T_,T_,F_,F_,F_,F_,F_,F_,F_,F_,F_,F_,F_] rfl rfl (one_of HT_.out (by kernel_rfl)) (by decide) (fun K hK => ?_)
          refine goes_ Tryd.func20 (by kernel_rfl) rfl #[.agg #[.int .u64 t234, .int .u64 t235], .agg #[.int .u32 t236, .int .u32 t237, .int .u32 t238, .int .u32 t239, .int .u32 t240, .int .u32 t241, .int .u32 t242, .int .u32 t243]] (by rfl) rfl rfl (by (try simp only [List.map_toArray, List.map_cons, List.map_nil]); first | done | rfl | (simp only [List.length_drop, List.length_take]; rfl)) ?_
          with_reducible refine (arrearslaw03_same.calls t234 t235 t236 t237 t238 t239 t240 t241 t242 t243 true _ A393.out).mono ?_
          rintro e w440 ⟨rfl, hb⟩
          refine ⟨_, rfl, ?_⟩
          have n0_ := Aside0.mk (wrq BK136.out hb)
          have n1_ := Aside0.mk (wrq BK137.out hb)
          have n2_ := Aside0.mk (wrq BK154.out hb)
          have n3_ := Aside0.mk (wrq BK155.out hb)
          have n4_ := Aside0.mk (wrq BK159.out hb)
          have n5_ := Aside0.mk (wrq BK169.out hb)
          have n6_ := Aside0.mk (wrq BK173.out hb)
          have n7_ := Aside0.mk (wrq BK191.out hb)
          have n8_ := Aside0.mk (wrq BK207.out hb)
          have n9_ := Aside0.mk (wrq BK231.out hb)
          have n10_ := Aside0.mk (below_step (wrs HB.out) hb)
          clear BK136
          clear BK137
          clear BK154
          clear BK155
          clear BK159
          clear BK169
          clear BK173
          clear BK191
          clear BK207
          clear BK231
          clear HB
          have BK136 := n0_
          have BK137 := n1_
          have BK154 := n2_
          have BK155 := n3_
          have BK159 := n4_
          have BK169 := n5_
          have BK173 := n6_
          have BK191 := n7_
          have BK207 := n8_
          have BK231 := n9_
          have HB := n10_
          clear n0_ n1_ n2_ n3_ n4_ n5_ n6_ n7_ n8_ n9_ n10_
          (try clear hb)
          (try clear hb2)
          (try clear hk)
          (try clear hi)
          refine hK.out _ _ ⟨(blk_cell BK207.out 0).trans rfl, (blk_cell BK207.out 1).trans rfl, (blk_cell BK231.out 0).trans rfl, (blk_cell BK231.out 1).trans rfl, (blk_cell BK231.out 2).trans rfl, (blk_cell BK231.out 3).trans rfl, (blk_cell BK231.out 4).trans rfl, (blk_cell BK231.out 5).trans rfl, (blk_cell BK231.out 6).trans rfl, (blk_cell BK231.out 7).trans rfl, (blk_cell BK136.out 0).trans rfl, (blk_cell BK136.out 1).trans rfl, (blk_cell BK137.out 0).trans rfl, (blk_cell BK137.out 1).trans rfl, (blk_cell BK154.out 0).trans rfl, (blk_cell BK154.out 1).trans rfl, (blk_cell BK154.out 2).trans rfl, (blk_cell BK154.out 3).trans rfl, (blk_cell BK154.out 4).trans rfl, (blk_cell BK154.out 5).trans rfl, (blk_cell BK154.out 6).trans rfl, (blk_cell BK154.out 7).trans rfl, (blk_cell BK155.out 0).trans rfl, (blk_cell BK155.out 1).trans rfl, (blk_cell BK155.out 2).trans rfl, (blk_cell BK155.out 3).trans rfl, (blk_cell BK155.out 4).trans rfl, (blk_cell BK155.out 5).trans rfl, (blk_cell BK155.out 6).trans rfl, (blk_cell BK155.out 7).trans rfl⟩ (fun hHeld => ?_)
          clear hK K
          refine norm_ (a' := ?_) ?_ ?_
          rotate_left
          ·
           show Act.put _ (some 175) _ = _
           simp only [Act.put, List.setIfInBounds_toArray, List.set_cons_zero, List.set_cons_succ, i64_w, i32_w]
           rfl
          refine pure_ (i := 20) (N := some 176) (v := ?_) (a' := ?_) #[T_,T_,T_,T_,T_,T_,T_,T_,T_,T_,T_,T_,T_,T_,T_,T_,T_,T_,T_,T_,T_,F_,F_,F_,F_,F_,F_,F_,F_,F_,F_] rfl rfl (any_of HT_.out (by kernel_rfl)) (fun _ _ _ h => h) (Or.inl ⟨by rfl, ?_⟩) ?_ ?_
          rotate_left
          ·
           intro w'
           go_simp
           with_reducible rfl
          rotate_left
          ·
           simp only [Act.put, List.setIfInBounds_toArray, List.set_cons_zero, List.set_cons_succ, i64_w, i32_w]
           rfl
          refine pure_ (i := 21) (N := some 177) (v := ?_) (a' := ?_) #[T_,T_,T_,T_,T_,T_,T_,T_,T_,T_,T_,T_,T_,T_,T_,T_,T_,T_,T_,T_,T_,T_,F_,F_,F_,F_,F_,F_,F_,F_,F_] rfl rfl (any_of HT_.out (by kernel_rfl)) (fun _ _ _ h => h) (Or.inl ⟨by rfl, ?_⟩) ?_ ?_
          rotate_left
          ·
           intro w'
           go_simp
           with_reducible rfl
          rotate_left
          ·
           simp only [Act.put, List.setIfInBounds_toArray, List.set_cons_zero, List.set_cons_succ, i64_w, i32_w]
           rfl
          refine take_ (i := 22) (N := some 178) (v := ?_) (a' := ?_) #[T_,T_,T_,T_,T_,T_,T_,T_,T_,T_,T_,T_,T_,T_,T_,T_,T_,T_,T_,T_,T_,T_,T_,F_,F_,F_,F_,F_,F_,F_,F_] rfl rfl (take_ofW HT_.out HW_.out (by kernel_rfl)) (fun _ _ _ h => h) (Or.inl ⟨by rfl, ?_⟩) hHeld ?_ ?_
          rotate_left
          ·
           rintro w' ⟨s0, s1, s2, s3, s4, s5, s6, s7, s8, s9, s10, s11, s12, s13, s14, s15, s16, s17, s18, s19, s20, s21, s22, s23, s24, s25, s26, s27, s28, s29⟩
           go_simp
           with_reducible rfl
          rotate_left
          ·
           simp only [Act.put, List.setIfInBounds_toArray, List.set_cons_zero, List.set_cons_succ, i64_w, i32_w]
           rfl
          refine take_ (i := 23) (N := some 179) (v := ?_) (a' := ?_) #[T_,T_,T_,T_,T_,T_,T_,T_,T_,T_,T_,T_,T_,T_,T_,T_,T_,T_,T_,T_,T_,T_,T_,T_,F_,F_,F_,F_,F_,F_,F_] rfl rfl (take_ofW HT_.out HW_.out (by kernel_rfl)) (fun _ _ _ h => h) (Or.inl ⟨by rfl, ?_⟩) hHeld ?_ ?_
          rotate_left
          ·
           rintro w' ⟨s0, s1, s2, s3, s4, s5, s6, s7, s8, s9, s10, s11, s12, s13, s14, s15, s16, s17, s18, s19, s20, s21, s22, s23, s24, s25, s26, s27, s28, s29⟩
           go_simp
           with_reducible rfl
          rotate_left
          ·
           simp only [Act.put, List.setIfInBounds_toArray, List.set_cons_zero, List.set_cons_succ, i64_w, i32_w]
           rfl
          refine take_ (i := 25) (N := some 181) (v := ?_) (a' := ?_) #[T_,T_,T_,T_,T_,T_,T_,T_,T_,T_,T_,T_,T_,T_,T_,T_,T_,T_,T_,T_,T_,T_,T_,T_,F_,T_,F_,F_,F_,F_,F_] rfl rfl (take_ofW HT_.out HW_.out (by kernel_rfl)) (fun _ _ _ h => h) (Or.inl ⟨by rfl, ?_⟩) hHeld ?_ ?_
          rotate_left
          ·
           rintro w' ⟨s0, s1, s2, s3, s4, s5, s6, s7, s8, s9, s10, s11, s12, s13, s14, s15, s16, s17, s18, s19, s20, s21, s22, s23, s24, s25, s26, s27, s28, s29⟩
           go_simp
           with_reducible rfl
          rotate_left
          ·
           simp only [Act.put, List.setIfInBounds_toArray, List.set_cons_zero, List.set_cons_succ, i64_w, i32_w]
           rfl
          refine take_ (i := 26) (N := some 182) (v := ?_) (a' := ?_) #[T_,T_,T_,T_,T_,T_,T_,T_,T_,T_,T_,T_,T_,T_,T_,T_,T_,T_,T_,T_,T_,T_,T_,T_,F_,T_,T_,F_,F_,F_,F_] rfl rfl (take_ofW HT_.out HW_.out (by kernel_rfl)) (fun _ _ _ h => h) (Or.inl ⟨by rfl, ?_⟩) hHeld ?_ ?_
          rotate_left
          ·
           rintro w' ⟨s0, s1, s2, s3, s4, s5, s6, s7, s8, s9, s10, s11, s12, s13, s14, s15, s16, s17, s18, s19, s20, s21, s22, s23, s24, s25, s26, s27, s28, s29⟩
           go_simp
           with_reducible rfl
          rotate_left
          ·
           simp only [Act.put, List.setIfInBounds_toArray, List.set_cons_zero, List.set_cons_succ, i64_w, i32_w]
           rfl
          refine one_ (i := 24) (N := some 180) #[T_,T_,T_,T_,T_,T_,T_,T_,T_,T_,T_,T_,T_,T_,T_,T_,T_,T_,T_,T_,T_,T_,T_,T_,T_,T_,T_,F_,F_,F_,F_] rfl rfl (one_of HT_.out (by kernel_rfl)) (by decide) (fun K hK => ?_)
          refine goes_ Tryd.func22 (by kernel_rfl) rfl #[.agg #[.int .u64 a0, .int .u64 a1], .agg #[.int .u64 a2, .int .u64 a3]] (by rfl) rfl rfl (by (try simp only [List.map_toArray, List.map_cons, List.map_nil]); first | done | rfl | (simp only [List.length_drop, List.length_take]; rfl)) ?_
          with_reducible refine (wide_Wide_Less.calls a0 a1 a2 a3 t245 _ A395.out).mono ?_
          rintro e w441 ⟨rfl, hb⟩
          refine ⟨_, rfl, ?_⟩
          have n0_ := Aside0.mk (wrq BK136.out hb)
          have n1_ := Aside0.mk (wrq BK137.out hb)
          have n2_ := Aside0.mk (wrq BK154.out hb)
          have n3_ := Aside0.mk (wrq BK155.out hb)
          have n4_ := Aside0.mk (wrq BK159.out hb)
          have n5_ := Aside0.mk (wrq BK169.out hb)
          have n6_ := Aside0.mk (wrq BK173.out hb)
          have n7_ := Aside0.mk (wrq BK191.out hb)
          have n8_ := Aside0.mk (wrq BK207.out hb)
          have n9_ := Aside0.mk (wrq BK231.out hb)
          have n10_ := Aside0.mk (below_step (wrs HB.out) hb)
          clear BK136
          clear BK137
          clear BK154
          clear BK155
          clear BK159
          clear BK169
          clear BK173
          clear BK191
          clear BK207
          clear BK231
          clear HB
          have BK136 := n0_
          have BK137 := n1_
          have BK154 := n2_
          have BK155 := n3_
          have BK159 := n4_
          have BK169 := n5_
          have BK173 := n6_
          have BK191 := n7_
          have BK207 := n8_
          have BK231 := n9_
          have HB := n10_
          clear n0_ n1_ n2_ n3_ n4_ n5_ n6_ n7_ n8_ n9_ n10_
          (try clear hb)
          (try clear hb2)
          (try clear hk)
          (try clear hi)
          refine hK.out _ _ ⟨(blk_cell BK207.out 0).trans rfl, (blk_cell BK207.out 1).trans rfl, (blk_cell BK231.out 0).trans rfl, (blk_cell BK231.out 1).trans rfl, (blk_cell BK231.out 2).trans rfl, (blk_cell BK231.out 3).trans rfl, (blk_cell BK231.out 4).trans rfl, (blk_cell BK231.out 5).trans rfl, (blk_cell BK231.out 6).trans rfl, (blk_cell BK231.out 7).trans rfl, (blk_cell BK136.out 0).trans rfl, (blk_cell BK136.out 1).trans rfl, (blk_cell BK137.out 0).trans rfl, (blk_cell BK137.out 1).trans rfl, (blk_cell BK154.out 0).trans rfl, (blk_cell BK154.out 1).trans rfl, (blk_cell BK154.out 2).trans rfl, (blk_cell BK154.out 3).trans rfl, (blk_cell BK154.out 4).trans rfl, (blk_cell BK154.out 5).trans rfl, (blk_cell BK154.out 6).trans rfl, (blk_cell BK154.out 7).trans rfl, (blk_cell BK155.out 0).trans rfl, (blk_cell BK155.out 1).trans rfl, (blk_cell BK155.out 2).trans rfl, (blk_cell BK155.out 3).trans rfl, (blk_cell BK155.out 4).trans rfl, (blk_cell BK155.out 5).trans rfl, (blk_cell BK155.out 6).trans rfl, (blk_cell BK155.out 7).trans rfl⟩ (fun hHeld => ?_)
          clear hK K
          refine norm_ (a' := ?_) ?_ ?_
          rotate_left
          ·
           show Act.put _ (some 180) _ = _
           simp only [Act.put, List.setIfInBounds_toArray, List.set_cons_zero, List.set_cons_succ, i64_w, i32_w]
           rfl
          refine one_ (i := 27) (N := some 183) #[T_,T_,T_,T_,T_,T_,T_,T_,T_,T_,T_,T_,T_,T_,T_,T_,T_,T_,T_,T_,T_,T_,T_,T_,T_,T_,T_,T_,F_,F_,F_] rfl rfl (one_of HT_.out (by kernel_rfl)) (by decide) (fun K hK => ?_)
          refine goes_ Tryd.func23 (by kernel_rfl) rfl #[.agg #[.int .u32 t138, .int .u32 t139, .int .u32 t140, .int .u32 t141, .int .u32 t142, .int .u32 t143, .int .u32 t144, .int .u32 t145], .agg #[.int .u32 t146, .int .u32 t147, .int .u32 t148, .int .u32 t149, .int .u32 t150, .int .u32 t151, .int .u32 t152, .int .u32 t153]] (by rfl) rfl rfl (by (try simp only [List.map_toArray, List.map_cons, List.map_nil]); first | done | rfl | (simp only [List.length_drop, List.length_take]; rfl)) ?_
          with_reducible refine (arrearsref03_Less.calls t138 t139 t140 t141 t142 t143 t144 t145 t146 t147 t148 t149 t150 t151 t152 t153 t246 _ A396.out).mono ?_
          rintro e w442 ⟨rfl, hb⟩
          refine ⟨_, rfl, ?_⟩
          have n0_ := Aside0.mk (wrq BK136.out hb)
          have n1_ := Aside0.mk (wrq BK137.out hb)
          have n2_ := Aside0.mk (wrq BK154.out hb)
          have n3_ := Aside0.mk (wrq BK155.out hb)
          have n4_ := Aside0.mk (wrq BK159.out hb)
          have n5_ := Aside0.mk (wrq BK169.out hb)
          have n6_ := Aside0.mk (wrq BK173.out hb)
          have n7_ := Aside0.mk (wrq BK191.out hb)
          have n8_ := Aside0.mk (wrq BK207.out hb)
          have n9_ := Aside0.mk (wrq BK231.out hb)
          have n10_ := Aside0.mk (below_step (wrs HB.out) hb)
          clear BK136
          clear BK137
          clear BK154
          clear BK155
          clear BK159
          clear BK169
          clear BK173
          clear BK191
          clear BK207
          clear BK231
          clear HB
          have BK136 := n0_
          have BK137 := n1_
          have BK154 := n2_
          have BK155 := n3_
          have BK159 := n4_
          have BK169 := n5_
          have BK173 := n6_
          have BK191 := n7_
          have BK207 := n8_
          have BK231 := n9_
          have HB := n10_
          clear n0_ n1_ n2_ n3_ n4_ n5_ n6_ n7_ n8_ n9_ n10_
          (try clear hb)
          (try clear hb2)
          (try clear hk)
          (try clear hi)
          refine hK.out _ _ ⟨(blk_cell BK207.out 0).trans rfl, (blk_cell BK207.out 1).trans rfl, (blk_cell BK231.out 0).trans rfl, (blk_cell BK231.out 1).trans rfl, (blk_cell BK231.out 2).trans rfl, (blk_cell BK231.out 3).trans rfl, (blk_cell BK231.out 4).trans rfl, (blk_cell BK231.out 5).trans rfl, (blk_cell BK231.out 6).trans rfl, (blk_cell BK231.out 7).trans rfl, (blk_cell BK136.out 0).trans rfl, (blk_cell BK136.out 1).trans rfl, (blk_cell BK137.out 0).trans rfl, (blk_cell BK137.out 1).trans rfl, (blk_cell BK154.out 0).trans rfl, (blk_cell BK154.out 1).trans rfl, (blk_cell BK154.out 2).trans rfl, (blk_cell BK154.out 3).trans rfl, (blk_cell BK154.out 4).trans rfl, (blk_cell BK154.out 5).trans rfl, (blk_cell BK154.out 6).trans rfl, (blk_cell BK154.out 7).trans rfl, (blk_cell BK155.out 0).trans rfl, (blk_cell BK155.out 1).trans rfl, (blk_cell BK155.out 2).trans rfl, (blk_cell BK155.out 3).trans rfl, (blk_cell BK155.out 4).trans rfl, (blk_cell BK155.out 5).trans rfl, (blk_cell BK155.out 6).trans rfl, (blk_cell BK155.out 7).trans rfl⟩ (fun hHeld => ?_)
          clear hK K
          refine norm_ (a' := ?_) ?_ ?_
          rotate_left
          ·
           show Act.put _ (some 183) _ = _
           simp only [Act.put, List.setIfInBounds_toArray, List.set_cons_zero, List.set_cons_succ, i64_w, i32_w]
           rfl
          refine pure_ (i := 28) (N := some 184) (v := ?_) (a' := ?_) #[T_,T_,T_,T_,T_,T_,T_,T_,T_,T_,T_,T_,T_,T_,T_,T_,T_,T_,T_,T_,T_,T_,T_,T_,T_,T_,T_,T_,T_,F_,F_] rfl rfl (any_of HT_.out (by kernel_rfl)) (fun _ _ _ h => h) (Or.inl ⟨by rfl, ?_⟩) ?_ ?_
          rotate_left
          ·
           intro w'
           go_simp
           with_reducible rfl
          rotate_left
          ·
           simp only [Act.put, List.setIfInBounds_toArray, List.set_cons_zero, List.set_cons_succ, i64_w, i32_w]
           rfl
          refine pure_ (i := 29) (N := some 185) (v := ?_) (a' := ?_) #[T_,T_,T_,T_,T_,T_,T_,T_,T_,T_,T_,T_,T_,T_,T_,T_,T_,T_,T_,T_,T_,T_,T_,T_,T_,T_,T_,T_,T_,T_,F_] rfl rfl (any_of HT_.out (by kernel_rfl)) (fun _ _ _ h => h) (Or.inl ⟨by rfl, ?_⟩) ?_ ?_
          rotate_left
          ·
           intro w'
           go_simp
           with_reducible rfl
          rotate_left
          ·
           simp only [Act.put, List.setIfInBounds_toArray, List.set_cons_zero, List.set_cons_succ, i64_w, i32_w]
           rfl
          refine pure_ (i := 30) (N := some 10) (v := ?_) (a' := ?_) #[T_,T_,T_,T_,T_,T_,T_,T_,T_,T_,T_,T_,T_,T_,T_,T_,T_,T_,T_,T_,T_,T_,T_,T_,T_,T_,T_,T_,T_,T_,T_] rfl rfl (any_of HT_.out (by kernel_rfl)) (fun _ _ _ h => h) (Or.inl ⟨by rfl, ?_⟩) ?_ ?_
          rotate_left
          ·
           intro w'
           go_simp
           with_reducible rfl
          rotate_left
          ·
           simp only [Act.put, List.setIfInBounds_toArray, List.set_cons_zero, List.set_cons_succ, i64_w, i32_w]
           rfl
          refine done_ (done_of HT_.out (by kernel_rfl)) ?_
          (try simp only [errW_none, errW_some])
          try go_wp2
          go_ret
          exact ⟨by first | rfl | (simp [errW_none, errW_some] <;> rfl) | (simp [*, errW_none, errW_some] <;> rfl), by repeat (first | (with_reducible first | exact HB.out | apply below_alloc | apply pw_below_drewN | apply below_drew1 | refine below_set ?_ GE136.out | refine below_set ?_ GE137.out | refine below_set ?_ GE154.out | refine below_set ?_ GE155.out | refine below_set ?_ GE159.out | refine below_set ?_ GE169.out | refine below_set ?_ GE173.out | refine below_set ?_ GE191.out | refine below_set ?_ GE207.out | refine below_set ?_ GE231.out) | exact HB.out)⟩
         ·
          replace c394 := Bool.eq_false_iff.mpr c394
          subst c394
          have H1 : (some false) = some r := by rw [if_neg (show ¬ (false = true) by decide)] at H; exact H
          clear H
          have H := H1
          clear H1
          exact absurd (H.trans (congrArg some HR.out)) (by simp)
        ·
         rw [if_neg c390] at H
         have c390b0 : (t205 == t230) = false := beq_eq_false_iff_ne.mpr c390
         have c390b1 : (t205 != t230) = true := bne_iff_ne.mpr c390
         exact absurd (H.trans (congrArg some HR.out)) (by simp)
       ·
        replace c389 := Bool.eq_false_iff.mpr c389
        subst c389
        have H1 : (some false) = some r := by rw [if_neg (show ¬ (false = true) by decide)] at H; exact H
        clear H
        have H := H1
        clear H1
        exact absurd (H.trans (congrArg some HR.out)) (by simp)
      ·
       have H1 : (some false) = some r := by rw [if_neg (show ¬ (some q232).isNone = true by simp)] at H; exact H
       clear H
       have H := H1
       clear H1
       try simp only [errW_none, errW_some]
       exact absurd (H.trans (congrArg some HR.out)) (by simp)
 ·
  replace c7 := Bool.eq_false_iff.mpr c7
  subst c7
  have H1 : (some false) = some r := by rw [if_neg (show ¬ (false = true) by decide)] at H; exact H
  clear H
  have H := H1
  clear H1
  exact absurd (H.trans (congrArg some HR.out)) (by simp)
end Go.Proofs.YtfpbibfoipbahaaDoor.PWideReckons
