-- Printed by a wrapper of this session's round the kit's print.py; Lean checks it.
import Derived.Test.YtkjofbdlholmbaaDoorPCoinReadsx0
import Derived.Test.YtkjofbdlholmbaaDoorPCoinReadsx1
namespace Go.Proofs.YtkjofbdlholmbaaDoor.PCoinReads
open Go.RowKit Go.Proofs.YtkjofbdlholmbaaDoorW.PrintWords Go.Proofs.YtkjofbdlholmbaaDoorW.PrintLast Go.Proofs.YtkjofbdlholmbaaDoorW.PrintMore
attribute [local go_sem] max2_int min2_int max_two min_two max_three min_three max_four min_four   -- for this text's walks alone
set_option linter.unusedVariables false
set_option linter.unusedSimpArgs false

/-! ### coin_Read: function 10 -/
section
open Go.RowKit Go.Extern.Stop Go.Stop Go.Extern
inductive CoinRAct (s wh pa dg : ByteArray) (SL : Value) (N i : Int) : Act → Prop
  | mk (t1 t6 t8 t9 t10 t11 t12 t13 t14 t15 t16 t17 t18 t19 t20 t21 t22 t23 t24 t25 t26 t27 t28 t29 t30 t34 t35 t36 t37 t38 t39 t40 t41 t42 t43 t44 t45 t46 t47 t48 t49 t50 t51 t52 t53 t54 t55 t56 t57 t58 t59 t60 t61 t62 t63 t64 t65 t66 t67 t68 t69 t70 t71 t72 t73 t74 t75 t76 t77 t78 t79 t80 : Value) : CoinRAct s wh pa dg SL N i { tmps := #[Value.string s, t1, Value.int IntKind.i64 0, Value.nilIface, Value.string wh, Value.string pa, t6, Value.string dg, t8, t9, t10, t11, t12, t13, t14, t15, t16, t17, t18, t19, t20, t21, t22, t23, t24, t25, t26, t27, t28, t29, t30, SL, Value.int IntKind.i64 N, Value.int IntKind.i64 i, t34, t35, t36, t37, t38, t39, t40, t41, t42, t43, t44, t45, t46, t47, t48, t49, t50, t51, t52, t53, t54, t55, t56, t57, t58, t59, t60, t61, t62, t63, t64, t65, t66, t67, t68, t69, t70, t71, t72, t73, t74, t75, t76, t77, t78, t79, t80], defers := [] }
theorem coinr_freeze {B : Nat} {w W : World} (h : Below B w W) (g o n : Nat) (hB : B ≤ g) : Below B w (W.freeze ⟨g, o, none⟩ n) := by
  unfold World.freeze
  split
  · exact h
  · refine h.trans ⟨rfl, rfl, rfl, ?_, fun k hk => ?_⟩
    · simp
    · simp only []
      rw [Array.getElem?_modify, if_neg (by show ¬ g = k; omega)]
theorem coinr_bytes (w : World) (e : TypeId) (t : ByteArray) : Below w.heap.size w (Go.Lib.bytesWorld w e t) := by
  unfold Go.Lib.bytesWorld
  exact coinr_freeze (below_alloc (below_drew1 (Below.refl _ _)) _) _ _ _ (Nat.le_refl _)
def coinr_PI (a0 : ByteArray) (a1 : Int) (a2 : Int) : Option (Int × Option Int) :=
  if a1 = 10 ∧ a2 = 64 ∧ a0.size ≤ 9223372036854775806 then (match Go.Lib.parseIntB 64 a0.data.toList with | .ok v => some (v, none) | _ => none) else none
theorem coinr_PIcalls (a0 : ByteArray) (a1 a2 : Int) (r1 : Int) (r2 : Option Int) (w : World) (h : coinr_PI a0 a1 a2 = some (r1, r2)) :
    Calls Tryd.prog 26 #[.string a0, .int .i64 a1, .int .i64 a2] w fun e w' => e = .returned (.tuple #[.int .i64 r1, .nilIface]) ∧ r2 = none ∧ Below w.heap.size w w' := by
  unfold coinr_PI at h
  split at h
  · rename_i hb
    obtain ⟨rfl, rfl, hs⟩ := hb
    split at h
    · rename_i v hv
      simp only [Option.some.injEq, Prod.mk.injEq] at h
      obtain ⟨rfl, rfl⟩ := h
      refine (Tryd.strconv_ParseInt_10_at64_ok a0 hs v hv w).mono ?_
      rintro e w' ⟨rfl, h⟩
      refine ⟨rfl, rfl, ?_⟩
      rcases h with rfl | ⟨t, rfl⟩
      · exact Below.refl _ _
      · exact coinr_bytes _ _ _
    · exact absurd h (by simp)
  · exact absurd h (by simp)
set_option maxHeartbeats 4000000 in
set_option maxRecDepth 100000 in
theorem coinr_is (tp : TypeId) (p : Value) (w : World) : Calls Tryd.prog 27 #[.nilIface, .iface tp p] w fun e w' => e = .returned (.bool false) ∧ w' = w := by
  have hu := Tryd.underlying26
  have hx : ∀ W, (Op.equal 26 .nilIface (.iface tp p)).run Tryd.prog W = .ok false W := fun W => by
    rw [Op.equal, show Op.maxDepth = 9999 + 1 from rfl, Op.equalIn]
    simp [run_underlying hu, go_sem]
  have hx2 : ∀ W, (binOp BinOp.eql 26 Value.nilIface (Value.iface tp p)).run Tryd.prog W = .ok (.bool false) W := fun W => by
    simp [binOp, hx, go_sem]
  go_enter Tryd.func27, Tryd.ntmps27
  go_upto_region 1 with (fail)
  go_upto_region 2 with (fail)
  go_wp2
  go_ret
  exact ⟨rfl, rfl⟩

theorem coinr_rng {w : World} (hG : Go.Proofs.YtkjofbdlholmbaaDoor.M.Laid w) : ∃ tp p, w.cell? ⟨0, 0, none⟩ = some (.iface tp p) := by
  obtain ⟨tp, p, h⟩ := hG.rng
  refine ⟨tp, p, ?_⟩
  unfold World.var? at h
  rw [show Tryd.prog.globalNamed "strconv.ErrRange" = some 0 from by kernel_rfl] at h
  simp only [Option.bind_some] at h
  split at h
  · rename_i cs _ _ hc
    simp only [Option.some.injEq] at h
    subst h
    simp [World.cell?, hc]
  · exact absurd h (by simp)
theorem coinr_rounds {P : Program} {c : Code} {Q : Exit → Act → World → Prop} (I : Nat → Act → World → Prop)
    (step : ∀ n a w, I n a w → ∀ K : Act → World → Prop, (∀ m a' w', n = m + 1 → I m a' w' → K a' w') → c.wp P (Exit.then K Q) a w) :
    ∀ n a w, I n a w → Code.rounds P c Q (n + 1) a w := by
  intro n
  induction n with
  | zero => intro a w h; exact step 0 a w h _ (fun m a' w' e _ => absurd e (by omega))
  | succ n ih => intro a w h; exact step (n + 1) a w h _ (fun m a' w' e h' => by rw [show m = n by omega] at h'; exact ih a' w' h')
set_option maxHeartbeats 4000000 in
set_option maxRecDepth 100000 in
theorem coinr_isrange (N : Nat) (b : Addr) (w : World) (h1 : w.cell? ⟨N, 2, none⟩ = some (.iface 122 (.pointer (some b)))) :
    Calls Tryd.prog 27 #[.iface 86 (.pointer (some ⟨N, 0, none⟩)), .iface 122 (.pointer (some b))] w fun e w' => e = .returned (.bool true) ∧ w' = w := by
  have isComp : (Tryd.prog.info? 122).map (·.comparable) = some true := by kernel_rfl
  have isSize : (Tryd.prog.info? 124).map (·.size) = some 1 := by kernel_rfl
  obtain ⟨i, hi, hcmp⟩ := Option.map_eq_some_iff.1 isComp
  obtain ⟨j, hj, hjs⟩ := Option.map_eq_some_iff.1 isSize
  have h8 := @run_callFunc_extern Tryd.prog 35 _ Extern.ReflectliteType.typeOf Tryd.func35 (by kernel_rfl) (by kernel_rfl) (by kernel_rfl) (by kernel_rfl)
  have h32 := @run_callFunc_extern Tryd.prog 100 _ (Extern.ReflectliteType.method fun t => do Rtype.noPackHeld "Comparable" t; pure (.bool (← typeInfo t).comparable)) Tryd.func100 (by kernel_rfl) (by kernel_rfl) (by kernel_rfl) (by kernel_rfl)
  have cT0 : ∀ (w : World), ((Extern.ReflectliteType.method fun t => do Rtype.noPackHeld "Comparable" t; pure (.bool (← typeInfo t).comparable)) #[.agg #[.pointer (some ⟨7, 122, none⟩)]]).run Tryd.prog w = .ok (.bool true) w := by intro w; kernel_rfl
  have cT : ∀ (w : World), (callFunc 100 #[.agg #[.pointer (some ⟨7, 122, none⟩)]]).run Tryd.prog w = .ok (.value (.bool true)) w := fun w => by rw [h32, cT0]; rfl
  clear h32 cT0
  have tT : ∀ (v : Value) (w : World), (Extern.ReflectliteType.typeOf #[.iface 122 v]).run Tryd.prog w = .ok (.iface 90 (.agg #[.pointer (some ⟨7, 122, none⟩)])) w := by intro v w; kernel_rfl
  have mR : ∀ (v : Value) (w : World), (Go.method 255 90 v "Comparable").run Tryd.prog w = .ok (100, v) w := by intro v w; kernel_rfl
  have nW : ∀ (v : Value) (xT : TypeId) (w : World), (Instr.typeAssert (.iface 86 v) xT 92 true).run Tryd.prog w = .ok (.tuple #[.nilIface, .bool false]) w := fun v xT w => run_typeAssert_lacksB Tryd.underlying92 (by kernel_rfl) (by kernel_rfl) v xT w
  have uW : ∀ (v : Value) (xT : TypeId) (w : World), (Instr.typeAssert (.iface 86 v) xT 95 true).run Tryd.prog w = .ok (.tuple #[.iface 86 v, .bool true]) w := fun v xT w => run_typeAssert_hasB Tryd.underlying95 (by kernel_rfl) v xT w
  have mU : ∀ (v : Value) (w : World), (Go.method 255 86 v "Unwrap").run Tryd.prog w = .ok (97, v) w := by intro v w; kernel_rfl
  have heq := run_eql_iface_ptr_same (P := Tryd.prog) w b Tryd.underlying26 Tryd.underlying122 hi hcmp hj
  have hty := run_eql_iface_types (P := Tryd.prog) 86 122 (.pointer (some ⟨N, 0, none⟩)) (.pointer (some b)) Tryd.underlying26 (by decide) w
  go_enter Tryd.func27, Tryd.ntmps27
  go_wp2
  refine wp_loop_rounds 2 ?_
  rw [rounds_succ]
  go_wp2
  rw [rounds_succ]
  go_wp2
  go_ret
  exact ⟨rfl, rfl⟩
theorem coinr_rnp {w : World} (hG : Go.Proofs.YtkjofbdlholmbaaDoor.M.Laid w) : ∃ a, w.var? Tryd.prog "strconv.ErrRange" = some #[.iface 122 (.pointer (some a))] ∧ w.cell? ⟨0, 0, none⟩ = some (.iface 122 (.pointer (some a))) := by
  obtain ⟨a, h⟩ := hG.rnp
  refine ⟨a, h, ?_⟩
  unfold World.var? at h
  rw [show Tryd.prog.globalNamed "strconv.ErrRange" = some 0 from by kernel_rfl] at h
  simp only [Option.bind_some] at h
  split at h
  · rename_i cs _ _ hc
    simp only [Option.some.injEq] at h
    subst h
    simp [World.cell?, hc]
  · exact absurd h (by simp)
set_option maxHeartbeats 4000000 in
set_option maxRecDepth 100000 in
theorem coinr_walk (s wh pa dg : ByteArray) (n : Int) (w : World) (m : Int) (hG : Go.Proofs.YtkjofbdlholmbaaDoor.M.Laid w) (hne : dg.toList.isEmpty = false) (hz : ∀ h : 1 < dg.size, ((dg[0]'(by omega)).toNat : Int) ≠ 48) (hpi : coinr_PI (wh ++ pa) 10 64 = some (n, none)) (htx : coin_Coin_Text.f n = some s) (hws : wh.size < 4294967281) (hm : w.cell? ⟨3, 0, none⟩ = some (.int .i64 m))
    (hs : s.size < 4294967281) (hcut : Go.Lib.cut s.data.toList [46] = (wh.data.toList, pa.data.toList, true)) (hpa : pa.size = 2)
    (hdg : Go.Lib.trimPrefix wh.data.toList [45] = dg.data.toList) (hsz : dg.size + 2 ≤ 4294967296) (B : Nat → Int) (hB : ∀ j, B j = ((dg ++ pa).data.toList.getD j 0).toNat) (hBr : ∀ j, j < dg.size + 2 → 48 ≤ B j ∧ B j ≤ 57) :
    Calls Tryd.prog 10 #[.string s] w fun e w' => e = .returned (.tuple #[.int .i64 n, .nilIface]) ∧ Below w.heap.size w w' := by
  have HG := Aside0.mk hG
  have HZ := Aside0.mk hz
  have HPI := Aside0.mk hpi
  have HTX := Aside0.mk htx
  have HBE := Aside0.mk (fun W : World => coinr_bytes W 5 (dg ++ pa))
  have HWS := Aside0.mk hws
  clear hG hz hpi htx hws
  have HCUT := Aside0.mk ((Tryd.strings_Cut s ⟨#[46]⟩ m w hs hm).mono (R' := fun e w' => e = .returned (.tuple #[.string wh, .string pa, .bool true]) ∧ ∃ n, w' = w.drewN n) (by
    rintro e w' ⟨rfl, h⟩
    refine ⟨?_, h⟩
    rw [show (⟨#[46]⟩ : ByteArray).data.toList = [46] from rfl, hcut]))
  have HTR := Aside0.mk (fun W => (Tryd.strings_TrimPrefix wh ⟨#[45]⟩ W).mono (R' := fun e w' => e = .returned (.string dg) ∧ w' = W) (by
    rintro e w' ⟨rfl, h⟩
    refine ⟨?_, h⟩
    rw [show (⟨#[45]⟩ : ByteArray).data.toList = [45] from rfl, hdg]))
  have hpa2 : (pa.size : Int) = 2 := by omega
  have hlen : (9223372036854775807 < dg.size + pa.size) = False := eq_false (by omega)
  have hlen2 : (9223372036854775807 < dg.size + 2) = False := eq_false (by omega)
  have hlen3 : (9223372036854775807 < (dg ++ pa).size) = False := eq_false (by rw [ByteArray.size_append]; omega)
  have hcv : ∀ W, (convert 9 49 (.string (dg ++ pa))).run Tryd.prog W = .ok (.slice (some ⟨W.heap.size, 0, none⟩) (dg ++ pa).size (grownCap W (dg ++ pa).size 0 5)) (Go.Lib.bytesWorld W 5 (dg ++ pa)) := fun W => Go.Lib.run_convert_string_bytes W 9 49 5 (dg ++ pa) Tryd.underlying9 Tryd.underlying49 Tryd.underlying5
  clear hcut hdg hs hm
  go_enter Tryd.func10, Tryd.ntmps10
  go_wp2_with (first
    | (go_at_call 24; (with_reducible refine HCUT.out.mono ?_); rintro e w1 ⟨rfl, nd, rfl⟩)
    | (go_at_call 25; (with_reducible refine (HTR.out _).mono ?_); rintro e w2 ⟨rfl, rfl⟩))
  have hlt : (2 : Int) ≤ (dg.size : Int) + 2 := by omega
  obtain ⟨WB, hWB⟩ : ∃ WB, WB = Lib.bytesWorld (w.drewN nd) 5 (dg ++ pa) := ⟨_, rfl⟩
  rw [← hWB]
  obtain ⟨SB, hSB⟩ : ∃ SB, SB = w.heap.size := ⟨_, rfl⟩
  rw [← hSB]
  have hcells : ∀ j : Nat, j < dg.size + 2 → WB.cell? ⟨SB, j, none⟩ = some (.int .u8 (B j)) := by
    intro j hj
    rw [hWB, hSB, hB j]
    exact Lib.bytesWorld_cell (w.drewN nd) 5 (dg ++ pa) j (by rw [ByteArray.size_append]; omega)
  obtain ⟨N, hN⟩ : ∃ N : Int, N = (dg.size : Int) + 2 := ⟨_, rfl⟩
  rw [← hN]
  obtain ⟨CP, hCP⟩ : ∃ c, c = grownCap (w.drewN nd) (dg.size + 2) 0 5 := ⟨_, rfl⟩
  rw [← hCP]
  obtain ⟨D, hD⟩ : ∃ D : Nat, D = dg.size + 2 := ⟨_, rfl⟩
  rw [← hD] at hcells hBr ⊢
  have hND : N = (D : Int) := by omega
  have HDW := Aside0.mk hD
  have HSZ := Aside0.mk hsz
  have HWB := Aside0.mk hWB
  have HSB := Aside0.mk hSB
  have HND := Aside0.mk hND
  have HBr := Aside0.mk hBr
  have HB := Aside0.mk hB
  have HCEL := Aside0.mk hcells
  clear hsz hD hWB hSB hND hBr hB hcells hN hCP hlt hcv HCUT HTR hlen hlen2 hlen3
  refine wp_loop_rounds (D + 1) ?_
  refine coinr_rounds (I := fun k a_ W => k ≤ D ∧ CoinRAct s wh pa dg (.slice (some ⟨SB, 0, none⟩) D CP) N (N - k) a_ ∧ W = WB) ?step D _ _ ?init
  case init =>
    refine ⟨Nat.le_refl _, ?_, rfl⟩
    rw [HND.out, show (D : Int) - (D : Int) = 0 by omega, ← HND.out]
    exact CoinRAct.mk ..
  case step =>
    rintro n a_ W ⟨hk, hA_, hW⟩ K1 hK1
    subst hW
    rcases n with _ | m
    · rw [show N - ((0 : Nat) : Int) = N by omega] at hA_
      rcases hA_ with ⟨t1, t6, t8, t9, t10, t11, t12, t13, t14, t15, t16, t17, t18, t19, t20, t21, t22, t23, t24, t25, t26, t27, t28, t29, t30, t34, t35, t36, t37, t38, t39, t40, t41, t42, t43, t44, t45, t46, t47, t48, t49, t50, t51, t52, t53, t54, t55, t56, t57, t58, t59, t60, t61, t62, t63, t64, t65, t66, t67, t68, t69, t70, t71, t72, t73, t74, t75, t76, t77, t78, t79, t80⟩
      have hbw : Below w.heap.size w W := by rw [HWB.out]; exact below_then (pw_below_drewN (Below.refl _ _) nd) (Nat.le_refl _) (HBE.out _)
      have HBW := Aside0.mk hbw
      have HGW := Aside0.mk (HG.out.below hbw)
      clear hbw hK1
      have hne' : (dg.toList = []) = False := eq_false (by intro h; rw [h] at hne; exact absurd hne (by decide))
      have hl : (9223372036854775807 < wh.size + 2) = False := eq_false (by have := HWS.out; omega)
      have hl1 : (9223372036854775807 < wh.size + pa.size) = False := eq_false (by have := HWS.out; omega)
      by_cases h1 : 1 < dg.size
      · have hz1 := HZ.out h1
        have h1i : 1 < (dg.size : Int) := by omega
        go_wp2_with (first
          | (go_at_call 26; (with_reducible refine (coinr_PIcalls (wh ++ pa) 10 64 n none _ HPI.out).mono ?_); rintro e w3 ⟨rfl, -, hb3⟩; have HB3 := Aside0.mk (below_then HBW.out (below_size HBW.out) hb3); have HG3 := Aside0.mk (HG.out.below HB3.out); obtain ⟨tp, p, hrc⟩ := coinr_rng HG3.out; clear hb3)
          | (go_at_call 27; (with_reducible refine (coinr_is tp p _).mono ?_); rintro e w4 ⟨rfl, rfl⟩)
          | (go_at_call 9; (with_reducible refine (coin_Coin_Text.calls n s _ HG3.out HTX.out).mono ?_); rintro e w5 ⟨rfl, hb5⟩; have HB5 := Aside0.mk (below_then HB3.out (below_size HB3.out) hb5); clear hb5))
        go_ret2
        exact ⟨by simp, HB5.out⟩
      · have h1i : (1 < (dg.size : Int)) = False := eq_false (by omega)
        go_wp2_with (first
          | (go_at_call 26; (with_reducible refine (coinr_PIcalls (wh ++ pa) 10 64 n none _ HPI.out).mono ?_); rintro e w3 ⟨rfl, -, hb3⟩; have HB3 := Aside0.mk (below_then HBW.out (below_size HBW.out) hb3); have HG3 := Aside0.mk (HG.out.below HB3.out); obtain ⟨tp, p, hrc⟩ := coinr_rng HG3.out; clear hb3)
          | (go_at_call 27; (with_reducible refine (coinr_is tp p _).mono ?_); rintro e w4 ⟨rfl, rfl⟩)
          | (go_at_call 9; (with_reducible refine (coin_Coin_Text.calls n s _ HG3.out HTX.out).mono ?_); rintro e w5 ⟨rfl, hb5⟩; have HB5 := Aside0.mk (below_then HB3.out (below_size HB3.out) hb5); clear hb5))
        go_ret2
        exact ⟨by simp, HB5.out⟩
    · obtain ⟨j, hj⟩ : ∃ j : Nat, j = D - (m + 1) := ⟨_, rfl⟩
      have hjl : j < D := by omega
      have hcj := HCEL.out j hjl
      obtain ⟨hb1, hb2⟩ := HBr.out j hjl
      rw [show N - ((m + 1 : Nat) : Int) = (j : Int) by rw [HND.out]; omega] at hA_
      have hjN : (j : Int) < N := by rw [HND.out]; omega
      have hj1 : N - (m : Int) = (j : Int) + 1 := by rw [HND.out]; omega
      have HJ1 := Aside0.mk hj1
      have HJ := Aside0.mk hj
      have HK := Aside0.mk hk
      clear hj hk hj1
      have hjb : (j : Int) < 4294967296 := by have := HSZ.out; have := HDW.out; omega
      have h48 : (B j < 48) = False := eq_false (by omega)
      have h57 : (57 < B j) = False := eq_false (by omega)
      rcases hA_ with ⟨t1, t6, t8, t9, t10, t11, t12, t13, t14, t15, t16, t17, t18, t19, t20, t21, t22, t23, t24, t25, t26, t27, t28, t29, t30, t34, t35, t36, t37, t38, t39, t40, t41, t42, t43, t44, t45, t46, t47, t48, t49, t50, t51, t52, t53, t54, t55, t56, t57, t58, t59, t60, t61, t62, t63, t64, t65, t66, t67, t68, t69, t70, t71, t72, t73, t74, t75, t76, t77, t78, t79, t80⟩
      go_wp2
      refine hK1 m _ _ rfl ⟨by have := HK.out; omega, ?_, rfl⟩
      rw [HJ1.out]
      exact CoinRAct.mk ..

set_option maxHeartbeats 4000000 in
set_option maxRecDepth 100000 in
theorem coinr_empty (s wh pa dg : ByteArray) (w : World) (m : Int) (hG : Go.Proofs.YtkjofbdlholmbaaDoor.M.Laid w) (hemp : dg.toList.isEmpty = true) (hws : wh.size < 4294967281) (hm : w.cell? ⟨3, 0, none⟩ = some (.int .i64 m))
    (hs : s.size < 4294967281) (hcut : Go.Lib.cut s.data.toList [46] = (wh.data.toList, pa.data.toList, true)) (hpa : pa.size = 2)
    (hdg : Go.Lib.trimPrefix wh.data.toList [45] = dg.data.toList) (hsz : dg.size + 2 ≤ 4294967296) (B : Nat → Int) (hB : ∀ j, B j = ((dg ++ pa).data.toList.getD j 0).toNat) (hBr : ∀ j, j < dg.size + 2 → 48 ≤ B j ∧ B j ≤ 57) :
    Calls Tryd.prog 10 #[.string s] w fun e w' => e = .returned (.tuple #[.int .i64 0, .iface 37 (.int .i64 15)]) ∧ Below w.heap.size w w' := by
  have HG := Aside0.mk hG
  have HBE := Aside0.mk (fun W : World => coinr_bytes W 5 (dg ++ pa))
  have HWS := Aside0.mk hws
  clear hG hws
  have HCUT := Aside0.mk ((Tryd.strings_Cut s ⟨#[46]⟩ m w hs hm).mono (R' := fun e w' => e = .returned (.tuple #[.string wh, .string pa, .bool true]) ∧ ∃ n, w' = w.drewN n) (by
    rintro e w' ⟨rfl, h⟩
    refine ⟨?_, h⟩
    rw [show (⟨#[46]⟩ : ByteArray).data.toList = [46] from rfl, hcut]))
  have HTR := Aside0.mk (fun W => (Tryd.strings_TrimPrefix wh ⟨#[45]⟩ W).mono (R' := fun e w' => e = .returned (.string dg) ∧ w' = W) (by
    rintro e w' ⟨rfl, h⟩
    refine ⟨?_, h⟩
    rw [show (⟨#[45]⟩ : ByteArray).data.toList = [45] from rfl, hdg]))
  have hpa2 : (pa.size : Int) = 2 := by omega
  have hlen : (9223372036854775807 < dg.size + pa.size) = False := eq_false (by omega)
  have hlen2 : (9223372036854775807 < dg.size + 2) = False := eq_false (by omega)
  have hlen3 : (9223372036854775807 < (dg ++ pa).size) = False := eq_false (by rw [ByteArray.size_append]; omega)
  have hcv : ∀ W, (convert 9 49 (.string (dg ++ pa))).run Tryd.prog W = .ok (.slice (some ⟨W.heap.size, 0, none⟩) (dg ++ pa).size (grownCap W (dg ++ pa).size 0 5)) (Go.Lib.bytesWorld W 5 (dg ++ pa)) := fun W => Go.Lib.run_convert_string_bytes W 9 49 5 (dg ++ pa) Tryd.underlying9 Tryd.underlying49 Tryd.underlying5
  clear hcut hdg hs hm
  go_enter Tryd.func10, Tryd.ntmps10
  go_wp2_with (first
    | (go_at_call 24; (with_reducible refine HCUT.out.mono ?_); rintro e w1 ⟨rfl, nd, rfl⟩)
    | (go_at_call 25; (with_reducible refine (HTR.out _).mono ?_); rintro e w2 ⟨rfl, rfl⟩))
  have hlt : (2 : Int) ≤ (dg.size : Int) + 2 := by omega
  obtain ⟨WB, hWB⟩ : ∃ WB, WB = Lib.bytesWorld (w.drewN nd) 5 (dg ++ pa) := ⟨_, rfl⟩
  rw [← hWB]
  obtain ⟨SB, hSB⟩ : ∃ SB, SB = w.heap.size := ⟨_, rfl⟩
  rw [← hSB]
  have hcells : ∀ j : Nat, j < dg.size + 2 → WB.cell? ⟨SB, j, none⟩ = some (.int .u8 (B j)) := by
    intro j hj
    rw [hWB, hSB, hB j]
    exact Lib.bytesWorld_cell (w.drewN nd) 5 (dg ++ pa) j (by rw [ByteArray.size_append]; omega)
  obtain ⟨N, hN⟩ : ∃ N : Int, N = (dg.size : Int) + 2 := ⟨_, rfl⟩
  rw [← hN]
  obtain ⟨CP, hCP⟩ : ∃ c, c = grownCap (w.drewN nd) (dg.size + 2) 0 5 := ⟨_, rfl⟩
  rw [← hCP]
  obtain ⟨D, hD⟩ : ∃ D : Nat, D = dg.size + 2 := ⟨_, rfl⟩
  rw [← hD] at hcells hBr ⊢
  have hND : N = (D : Int) := by omega
  have HDW := Aside0.mk hD
  have HSZ := Aside0.mk hsz
  have HWB := Aside0.mk hWB
  have HSB := Aside0.mk hSB
  have HND := Aside0.mk hND
  have HBr := Aside0.mk hBr
  have HB := Aside0.mk hB
  have HCEL := Aside0.mk hcells
  clear hsz hD hWB hSB hND hBr hB hcells hN hCP hlt hcv HCUT HTR hlen hlen2 hlen3
  refine wp_loop_rounds (D + 1) ?_
  refine coinr_rounds (I := fun k a_ W => k ≤ D ∧ CoinRAct s wh pa dg (.slice (some ⟨SB, 0, none⟩) D CP) N (N - k) a_ ∧ W = WB) ?step D _ _ ?init
  case init =>
    refine ⟨Nat.le_refl _, ?_, rfl⟩
    rw [HND.out, show (D : Int) - (D : Int) = 0 by omega, ← HND.out]
    exact CoinRAct.mk ..
  case step =>
    rintro n a_ W ⟨hk, hA_, hW⟩ K1 hK1
    subst hW
    rcases n with _ | m
    · rw [show N - ((0 : Nat) : Int) = N by omega] at hA_
      rcases hA_ with ⟨t1, t6, t8, t9, t10, t11, t12, t13, t14, t15, t16, t17, t18, t19, t20, t21, t22, t23, t24, t25, t26, t27, t28, t29, t30, t34, t35, t36, t37, t38, t39, t40, t41, t42, t43, t44, t45, t46, t47, t48, t49, t50, t51, t52, t53, t54, t55, t56, t57, t58, t59, t60, t61, t62, t63, t64, t65, t66, t67, t68, t69, t70, t71, t72, t73, t74, t75, t76, t77, t78, t79, t80⟩
      have hbw : Below w.heap.size w W := by rw [HWB.out]; exact below_then (pw_below_drewN (Below.refl _ _) nd) (Nat.le_refl _) (HBE.out _)
      have HBW := Aside0.mk hbw
      have HGW := Aside0.mk (HG.out.below hbw)
      clear hbw hK1
      have hemp' : (dg.toList = []) = True := eq_true (by simpa using hemp)
      have hemp2 : dg.toList = [] := by simpa using hemp
      have hl : (9223372036854775807 < wh.size + 2) = False := eq_false (by have := HWS.out; omega)
      have hl1 : (9223372036854775807 < wh.size + pa.size) = False := eq_false (by have := HWS.out; omega)
      go_wp2
      go_ret2
      exact ⟨by simp, HBW.out⟩
    · obtain ⟨j, hj⟩ : ∃ j : Nat, j = D - (m + 1) := ⟨_, rfl⟩
      have hjl : j < D := by omega
      have hcj := HCEL.out j hjl
      obtain ⟨hb1, hb2⟩ := HBr.out j hjl
      rw [show N - ((m + 1 : Nat) : Int) = (j : Int) by rw [HND.out]; omega] at hA_
      have hjN : (j : Int) < N := by rw [HND.out]; omega
      have hj1 : N - (m : Int) = (j : Int) + 1 := by rw [HND.out]; omega
      have HJ1 := Aside0.mk hj1
      have HJ := Aside0.mk hj
      have HK := Aside0.mk hk
      clear hj hk hj1
      have hjb : (j : Int) < 4294967296 := by have := HSZ.out; have := HDW.out; omega
      have h48 : (B j < 48) = False := eq_false (by omega)
      have h57 : (57 < B j) = False := eq_false (by omega)
      rcases hA_ with ⟨t1, t6, t8, t9, t10, t11, t12, t13, t14, t15, t16, t17, t18, t19, t20, t21, t22, t23, t24, t25, t26, t27, t28, t29, t30, t34, t35, t36, t37, t38, t39, t40, t41, t42, t43, t44, t45, t46, t47, t48, t49, t50, t51, t52, t53, t54, t55, t56, t57, t58, t59, t60, t61, t62, t63, t64, t65, t66, t67, t68, t69, t70, t71, t72, t73, t74, t75, t76, t77, t78, t79, t80⟩
      go_wp2
      refine hK1 m _ _ rfl ⟨by have := HK.out; omega, ?_, rfl⟩
      rw [HJ1.out]
      exact CoinRAct.mk ..

set_option maxHeartbeats 4000000 in
set_option maxRecDepth 100000 in
theorem coinr_zero (s wh pa dg : ByteArray) (w : World) (m : Int) (hG : Go.Proofs.YtkjofbdlholmbaaDoor.M.Laid w) (hne : dg.toList.isEmpty = false) (h1 : 1 < dg.size) (hz : ((dg[0]'(by omega)).toNat : Int) = 48) (hws : wh.size < 4294967281) (hm : w.cell? ⟨3, 0, none⟩ = some (.int .i64 m))
    (hs : s.size < 4294967281) (hcut : Go.Lib.cut s.data.toList [46] = (wh.data.toList, pa.data.toList, true)) (hpa : pa.size = 2)
    (hdg : Go.Lib.trimPrefix wh.data.toList [45] = dg.data.toList) (hsz : dg.size + 2 ≤ 4294967296) (B : Nat → Int) (hB : ∀ j, B j = ((dg ++ pa).data.toList.getD j 0).toNat) (hBr : ∀ j, j < dg.size + 2 → 48 ≤ B j ∧ B j ≤ 57) :
    Calls Tryd.prog 10 #[.string s] w fun e w' => e = .returned (.tuple #[.int .i64 0, .iface 37 (.int .i64 15)]) ∧ Below w.heap.size w w' := by
  have HG := Aside0.mk hG
  have HZ := Aside0.mk hz
  have HBE := Aside0.mk (fun W : World => coinr_bytes W 5 (dg ++ pa))
  have HWS := Aside0.mk hws
  clear hG hz hws
  have HCUT := Aside0.mk ((Tryd.strings_Cut s ⟨#[46]⟩ m w hs hm).mono (R' := fun e w' => e = .returned (.tuple #[.string wh, .string pa, .bool true]) ∧ ∃ n, w' = w.drewN n) (by
    rintro e w' ⟨rfl, h⟩
    refine ⟨?_, h⟩
    rw [show (⟨#[46]⟩ : ByteArray).data.toList = [46] from rfl, hcut]))
  have HTR := Aside0.mk (fun W => (Tryd.strings_TrimPrefix wh ⟨#[45]⟩ W).mono (R' := fun e w' => e = .returned (.string dg) ∧ w' = W) (by
    rintro e w' ⟨rfl, h⟩
    refine ⟨?_, h⟩
    rw [show (⟨#[45]⟩ : ByteArray).data.toList = [45] from rfl, hdg]))
  have hpa2 : (pa.size : Int) = 2 := by omega
  have hlen : (9223372036854775807 < dg.size + pa.size) = False := eq_false (by omega)
  have hlen2 : (9223372036854775807 < dg.size + 2) = False := eq_false (by omega)
  have hlen3 : (9223372036854775807 < (dg ++ pa).size) = False := eq_false (by rw [ByteArray.size_append]; omega)
  have hcv : ∀ W, (convert 9 49 (.string (dg ++ pa))).run Tryd.prog W = .ok (.slice (some ⟨W.heap.size, 0, none⟩) (dg ++ pa).size (grownCap W (dg ++ pa).size 0 5)) (Go.Lib.bytesWorld W 5 (dg ++ pa)) := fun W => Go.Lib.run_convert_string_bytes W 9 49 5 (dg ++ pa) Tryd.underlying9 Tryd.underlying49 Tryd.underlying5
  clear hcut hdg hs hm
  go_enter Tryd.func10, Tryd.ntmps10
  go_wp2_with (first
    | (go_at_call 24; (with_reducible refine HCUT.out.mono ?_); rintro e w1 ⟨rfl, nd, rfl⟩)
    | (go_at_call 25; (with_reducible refine (HTR.out _).mono ?_); rintro e w2 ⟨rfl, rfl⟩))
  have hlt : (2 : Int) ≤ (dg.size : Int) + 2 := by omega
  obtain ⟨WB, hWB⟩ : ∃ WB, WB = Lib.bytesWorld (w.drewN nd) 5 (dg ++ pa) := ⟨_, rfl⟩
  rw [← hWB]
  obtain ⟨SB, hSB⟩ : ∃ SB, SB = w.heap.size := ⟨_, rfl⟩
  rw [← hSB]
  have hcells : ∀ j : Nat, j < dg.size + 2 → WB.cell? ⟨SB, j, none⟩ = some (.int .u8 (B j)) := by
    intro j hj
    rw [hWB, hSB, hB j]
    exact Lib.bytesWorld_cell (w.drewN nd) 5 (dg ++ pa) j (by rw [ByteArray.size_append]; omega)
  obtain ⟨N, hN⟩ : ∃ N : Int, N = (dg.size : Int) + 2 := ⟨_, rfl⟩
  rw [← hN]
  obtain ⟨CP, hCP⟩ : ∃ c, c = grownCap (w.drewN nd) (dg.size + 2) 0 5 := ⟨_, rfl⟩
  rw [← hCP]
  obtain ⟨D, hD⟩ : ∃ D : Nat, D = dg.size + 2 := ⟨_, rfl⟩
  rw [← hD] at hcells hBr ⊢
  have hND : N = (D : Int) := by omega
  have HDW := Aside0.mk hD
  have HSZ := Aside0.mk hsz
  have HWB := Aside0.mk hWB
  have HSB := Aside0.mk hSB
  have HND := Aside0.mk hND
  have HBr := Aside0.mk hBr
  have HB := Aside0.mk hB
  have HCEL := Aside0.mk hcells
  clear hsz hD hWB hSB hND hBr hB hcells hN hCP hlt hcv HCUT HTR hlen hlen2 hlen3
  refine wp_loop_rounds (D + 1) ?_
  refine coinr_rounds (I := fun k a_ W => k ≤ D ∧ CoinRAct s wh pa dg (.slice (some ⟨SB, 0, none⟩) D CP) N (N - k) a_ ∧ W = WB) ?step D _ _ ?init
  case init =>
    refine ⟨Nat.le_refl _, ?_, rfl⟩
    rw [HND.out, show (D : Int) - (D : Int) = 0 by omega, ← HND.out]
    exact CoinRAct.mk ..
  case step =>
    rintro n a_ W ⟨hk, hA_, hW⟩ K1 hK1
    subst hW
    rcases n with _ | m
    · rw [show N - ((0 : Nat) : Int) = N by omega] at hA_
      rcases hA_ with ⟨t1, t6, t8, t9, t10, t11, t12, t13, t14, t15, t16, t17, t18, t19, t20, t21, t22, t23, t24, t25, t26, t27, t28, t29, t30, t34, t35, t36, t37, t38, t39, t40, t41, t42, t43, t44, t45, t46, t47, t48, t49, t50, t51, t52, t53, t54, t55, t56, t57, t58, t59, t60, t61, t62, t63, t64, t65, t66, t67, t68, t69, t70, t71, t72, t73, t74, t75, t76, t77, t78, t79, t80⟩
      have hbw : Below w.heap.size w W := by rw [HWB.out]; exact below_then (pw_below_drewN (Below.refl _ _) nd) (Nat.le_refl _) (HBE.out _)
      have HBW := Aside0.mk hbw
      have HGW := Aside0.mk (HG.out.below hbw)
      clear hbw hK1
      have hne' : (dg.toList = []) = False := eq_false (by intro h; rw [h] at hne; exact absurd hne (by decide))
      have hl : (9223372036854775807 < wh.size + 2) = False := eq_false (by have := HWS.out; omega)
      have hl1 : (9223372036854775807 < wh.size + pa.size) = False := eq_false (by have := HWS.out; omega)
      have h1i : 1 < (dg.size : Int) := by omega
      have hz1 := HZ.out
      go_wp2
      go_ret2
      exact ⟨by simp, HBW.out⟩
    · obtain ⟨j, hj⟩ : ∃ j : Nat, j = D - (m + 1) := ⟨_, rfl⟩
      have hjl : j < D := by omega
      have hcj := HCEL.out j hjl
      obtain ⟨hb1, hb2⟩ := HBr.out j hjl
      rw [show N - ((m + 1 : Nat) : Int) = (j : Int) by rw [HND.out]; omega] at hA_
      have hjN : (j : Int) < N := by rw [HND.out]; omega
      have hj1 : N - (m : Int) = (j : Int) + 1 := by rw [HND.out]; omega
      have HJ1 := Aside0.mk hj1
      have HJ := Aside0.mk hj
      have HK := Aside0.mk hk
      clear hj hk hj1
      have hjb : (j : Int) < 4294967296 := by have := HSZ.out; have := HDW.out; omega
      have h48 : (B j < 48) = False := eq_false (by omega)
      have h57 : (57 < B j) = False := eq_false (by omega)
      rcases hA_ with ⟨t1, t6, t8, t9, t10, t11, t12, t13, t14, t15, t16, t17, t18, t19, t20, t21, t22, t23, t24, t25, t26, t27, t28, t29, t30, t34, t35, t36, t37, t38, t39, t40, t41, t42, t43, t44, t45, t46, t47, t48, t49, t50, t51, t52, t53, t54, t55, t56, t57, t58, t59, t60, t61, t62, t63, t64, t65, t66, t67, t68, t69, t70, t71, t72, t73, t74, t75, t76, t77, t78, t79, t80⟩
      go_wp2
      refine hK1 m _ _ rfl ⟨by have := HK.out; omega, ?_, rfl⟩
      rw [HJ1.out]
      exact CoinRAct.mk ..

set_option maxHeartbeats 4000000 in
set_option maxRecDepth 100000 in
theorem coinr_text (s wh pa dg : ByteArray) (n : Int) (tt : ByteArray) (w : World) (m : Int) (hG : Go.Proofs.YtkjofbdlholmbaaDoor.M.Laid w) (hne : dg.toList.isEmpty = false) (hz : ∀ h : 1 < dg.size, ((dg[0]'(by omega)).toNat : Int) ≠ 48) (hpi : coinr_PI (wh ++ pa) 10 64 = some (n, none)) (htx : coin_Coin_Text.f n = some tt) (hts : (tt.toList == s.toList) = false) (hws : wh.size < 4294967281) (hm : w.cell? ⟨3, 0, none⟩ = some (.int .i64 m))
    (hs : s.size < 4294967281) (hcut : Go.Lib.cut s.data.toList [46] = (wh.data.toList, pa.data.toList, true)) (hpa : pa.size = 2)
    (hdg : Go.Lib.trimPrefix wh.data.toList [45] = dg.data.toList) (hsz : dg.size + 2 ≤ 4294967296) (B : Nat → Int) (hB : ∀ j, B j = ((dg ++ pa).data.toList.getD j 0).toNat) (hBr : ∀ j, j < dg.size + 2 → 48 ≤ B j ∧ B j ≤ 57) :
    Calls Tryd.prog 10 #[.string s] w fun e w' => e = .returned (.tuple #[.int .i64 0, .iface 37 (.int .i64 15)]) ∧ Below w.heap.size w w' := by
  have HG := Aside0.mk hG
  have HZ := Aside0.mk hz
  have HPI := Aside0.mk hpi
  have HTX := Aside0.mk htx
  have HTS := Aside0.mk hts
  have HBE := Aside0.mk (fun W : World => coinr_bytes W 5 (dg ++ pa))
  have HWS := Aside0.mk hws
  clear hG hz hpi htx hts hws
  have HCUT := Aside0.mk ((Tryd.strings_Cut s ⟨#[46]⟩ m w hs hm).mono (R' := fun e w' => e = .returned (.tuple #[.string wh, .string pa, .bool true]) ∧ ∃ n, w' = w.drewN n) (by
    rintro e w' ⟨rfl, h⟩
    refine ⟨?_, h⟩
    rw [show (⟨#[46]⟩ : ByteArray).data.toList = [46] from rfl, hcut]))
  have HTR := Aside0.mk (fun W => (Tryd.strings_TrimPrefix wh ⟨#[45]⟩ W).mono (R' := fun e w' => e = .returned (.string dg) ∧ w' = W) (by
    rintro e w' ⟨rfl, h⟩
    refine ⟨?_, h⟩
    rw [show (⟨#[45]⟩ : ByteArray).data.toList = [45] from rfl, hdg]))
  have hpa2 : (pa.size : Int) = 2 := by omega
  have hlen : (9223372036854775807 < dg.size + pa.size) = False := eq_false (by omega)
  have hlen2 : (9223372036854775807 < dg.size + 2) = False := eq_false (by omega)
  have hlen3 : (9223372036854775807 < (dg ++ pa).size) = False := eq_false (by rw [ByteArray.size_append]; omega)
  have hcv : ∀ W, (convert 9 49 (.string (dg ++ pa))).run Tryd.prog W = .ok (.slice (some ⟨W.heap.size, 0, none⟩) (dg ++ pa).size (grownCap W (dg ++ pa).size 0 5)) (Go.Lib.bytesWorld W 5 (dg ++ pa)) := fun W => Go.Lib.run_convert_string_bytes W 9 49 5 (dg ++ pa) Tryd.underlying9 Tryd.underlying49 Tryd.underlying5
  clear hcut hdg hs hm
  go_enter Tryd.func10, Tryd.ntmps10
  go_wp2_with (first
    | (go_at_call 24; (with_reducible refine HCUT.out.mono ?_); rintro e w1 ⟨rfl, nd, rfl⟩)
    | (go_at_call 25; (with_reducible refine (HTR.out _).mono ?_); rintro e w2 ⟨rfl, rfl⟩))
  have hlt : (2 : Int) ≤ (dg.size : Int) + 2 := by omega
  obtain ⟨WB, hWB⟩ : ∃ WB, WB = Lib.bytesWorld (w.drewN nd) 5 (dg ++ pa) := ⟨_, rfl⟩
  rw [← hWB]
  obtain ⟨SB, hSB⟩ : ∃ SB, SB = w.heap.size := ⟨_, rfl⟩
  rw [← hSB]
  have hcells : ∀ j : Nat, j < dg.size + 2 → WB.cell? ⟨SB, j, none⟩ = some (.int .u8 (B j)) := by
    intro j hj
    rw [hWB, hSB, hB j]
    exact Lib.bytesWorld_cell (w.drewN nd) 5 (dg ++ pa) j (by rw [ByteArray.size_append]; omega)
  obtain ⟨N, hN⟩ : ∃ N : Int, N = (dg.size : Int) + 2 := ⟨_, rfl⟩
  rw [← hN]
  obtain ⟨CP, hCP⟩ : ∃ c, c = grownCap (w.drewN nd) (dg.size + 2) 0 5 := ⟨_, rfl⟩
  rw [← hCP]
  obtain ⟨D, hD⟩ : ∃ D : Nat, D = dg.size + 2 := ⟨_, rfl⟩
  rw [← hD] at hcells hBr ⊢
  have hND : N = (D : Int) := by omega
  have HDW := Aside0.mk hD
  have HSZ := Aside0.mk hsz
  have HWB := Aside0.mk hWB
  have HSB := Aside0.mk hSB
  have HND := Aside0.mk hND
  have HBr := Aside0.mk hBr
  have HB := Aside0.mk hB
  have HCEL := Aside0.mk hcells
  clear hsz hD hWB hSB hND hBr hB hcells hN hCP hlt hcv HCUT HTR hlen hlen2 hlen3
  refine wp_loop_rounds (D + 1) ?_
  refine coinr_rounds (I := fun k a_ W => k ≤ D ∧ CoinRAct s wh pa dg (.slice (some ⟨SB, 0, none⟩) D CP) N (N - k) a_ ∧ W = WB) ?step D _ _ ?init
  case init =>
    refine ⟨Nat.le_refl _, ?_, rfl⟩
    rw [HND.out, show (D : Int) - (D : Int) = 0 by omega, ← HND.out]
    exact CoinRAct.mk ..
  case step =>
    rintro n a_ W ⟨hk, hA_, hW⟩ K1 hK1
    subst hW
    rcases n with _ | m
    · rw [show N - ((0 : Nat) : Int) = N by omega] at hA_
      rcases hA_ with ⟨t1, t6, t8, t9, t10, t11, t12, t13, t14, t15, t16, t17, t18, t19, t20, t21, t22, t23, t24, t25, t26, t27, t28, t29, t30, t34, t35, t36, t37, t38, t39, t40, t41, t42, t43, t44, t45, t46, t47, t48, t49, t50, t51, t52, t53, t54, t55, t56, t57, t58, t59, t60, t61, t62, t63, t64, t65, t66, t67, t68, t69, t70, t71, t72, t73, t74, t75, t76, t77, t78, t79, t80⟩
      have hbw : Below w.heap.size w W := by rw [HWB.out]; exact below_then (pw_below_drewN (Below.refl _ _) nd) (Nat.le_refl _) (HBE.out _)
      have HBW := Aside0.mk hbw
      have HGW := Aside0.mk (HG.out.below hbw)
      clear hbw hK1
      have hne' : (dg.toList = []) = False := eq_false (by intro h; rw [h] at hne; exact absurd hne (by decide))
      have hts2 : (tt.toList == s.toList) = false := HTS.out
      have hl : (9223372036854775807 < wh.size + 2) = False := eq_false (by have := HWS.out; omega)
      have hl1 : (9223372036854775807 < wh.size + pa.size) = False := eq_false (by have := HWS.out; omega)
      by_cases h1 : 1 < dg.size
      · have hz1 := HZ.out h1
        have h1i : 1 < (dg.size : Int) := by omega
        go_wp2_with (first
          | (go_at_call 26; (with_reducible refine (coinr_PIcalls (wh ++ pa) 10 64 n none _ HPI.out).mono ?_); rintro e w3 ⟨rfl, -, hb3⟩; have HB3 := Aside0.mk (below_then HBW.out (below_size HBW.out) hb3); have HG3 := Aside0.mk (HG.out.below HB3.out); obtain ⟨tp, p, hrc⟩ := coinr_rng HG3.out; clear hb3)
          | (go_at_call 27; (with_reducible refine (coinr_is tp p _).mono ?_); rintro e w4 ⟨rfl, rfl⟩)
          | (go_at_call 9; (with_reducible refine (coin_Coin_Text.calls n tt _ HG3.out HTX.out).mono ?_); rintro e w5 ⟨rfl, hb5⟩; have HB5 := Aside0.mk (below_then HB3.out (below_size HB3.out) hb5); clear hb5))
        go_ret2
        exact ⟨by simp, HB5.out⟩
      · have h1i : (1 < (dg.size : Int)) = False := eq_false (by omega)
        go_wp2_with (first
          | (go_at_call 26; (with_reducible refine (coinr_PIcalls (wh ++ pa) 10 64 n none _ HPI.out).mono ?_); rintro e w3 ⟨rfl, -, hb3⟩; have HB3 := Aside0.mk (below_then HBW.out (below_size HBW.out) hb3); have HG3 := Aside0.mk (HG.out.below HB3.out); obtain ⟨tp, p, hrc⟩ := coinr_rng HG3.out; clear hb3)
          | (go_at_call 27; (with_reducible refine (coinr_is tp p _).mono ?_); rintro e w4 ⟨rfl, rfl⟩)
          | (go_at_call 9; (with_reducible refine (coin_Coin_Text.calls n tt _ HG3.out HTX.out).mono ?_); rintro e w5 ⟨rfl, hb5⟩; have HB5 := Aside0.mk (below_then HB3.out (below_size HB3.out) hb5); clear hb5))
        go_ret2
        exact ⟨by simp, HB5.out⟩
    · obtain ⟨j, hj⟩ : ∃ j : Nat, j = D - (m + 1) := ⟨_, rfl⟩
      have hjl : j < D := by omega
      have hcj := HCEL.out j hjl
      obtain ⟨hb1, hb2⟩ := HBr.out j hjl
      rw [show N - ((m + 1 : Nat) : Int) = (j : Int) by rw [HND.out]; omega] at hA_
      have hjN : (j : Int) < N := by rw [HND.out]; omega
      have hj1 : N - (m : Int) = (j : Int) + 1 := by rw [HND.out]; omega
      have HJ1 := Aside0.mk hj1
      have HJ := Aside0.mk hj
      have HK := Aside0.mk hk
      clear hj hk hj1
      have hjb : (j : Int) < 4294967296 := by have := HSZ.out; have := HDW.out; omega
      have h48 : (B j < 48) = False := eq_false (by omega)
      have h57 : (57 < B j) = False := eq_false (by omega)
      rcases hA_ with ⟨t1, t6, t8, t9, t10, t11, t12, t13, t14, t15, t16, t17, t18, t19, t20, t21, t22, t23, t24, t25, t26, t27, t28, t29, t30, t34, t35, t36, t37, t38, t39, t40, t41, t42, t43, t44, t45, t46, t47, t48, t49, t50, t51, t52, t53, t54, t55, t56, t57, t58, t59, t60, t61, t62, t63, t64, t65, t66, t67, t68, t69, t70, t71, t72, t73, t74, t75, t76, t77, t78, t79, t80⟩
      go_wp2
      refine hK1 m _ _ rfl ⟨by have := HK.out; omega, ?_, rfl⟩
      rw [HJ1.out]
      exact CoinRAct.mk ..

set_option maxHeartbeats 4000000 in
set_option maxRecDepth 100000 in
theorem coinr_range (s wh pa dg : ByteArray) (w : World) (m : Int) (hG : Go.Proofs.YtkjofbdlholmbaaDoor.M.Laid w) (hne : dg.toList.isEmpty = false) (hz : ∀ h : 1 < dg.size, ((dg[0]'(by omega)).toNat : Int) ≠ 48) (hrg : Lib.parseIntB 64 (wh ++ pa).data.toList = .range) (hws : wh.size < 4294967281) (hm : w.cell? ⟨3, 0, none⟩ = some (.int .i64 m))
    (hs : s.size < 4294967281) (hcut : Go.Lib.cut s.data.toList [46] = (wh.data.toList, pa.data.toList, true)) (hpa : pa.size = 2)
    (hdg : Go.Lib.trimPrefix wh.data.toList [45] = dg.data.toList) (hsz : dg.size + 2 ≤ 4294967296) (B : Nat → Int) (hB : ∀ j, B j = ((dg ++ pa).data.toList.getD j 0).toNat) (hBr : ∀ j, j < dg.size + 2 → 48 ≤ B j ∧ B j ≤ 57) :
    Calls Tryd.prog 10 #[.string s] w fun e w' => e = .returned (.tuple #[.int .i64 0, .iface 37 (.int .i64 12)]) ∧ Below w.heap.size w w' := by
  have HG := Aside0.mk hG
  have HZ := Aside0.mk hz
  have HRG := Aside0.mk hrg
  have HBE := Aside0.mk (fun W : World => coinr_bytes W 5 (dg ++ pa))
  have HWS := Aside0.mk hws
  clear hG hz hrg hws
  have HCUT := Aside0.mk ((Tryd.strings_Cut s ⟨#[46]⟩ m w hs hm).mono (R' := fun e w' => e = .returned (.tuple #[.string wh, .string pa, .bool true]) ∧ ∃ n, w' = w.drewN n) (by
    rintro e w' ⟨rfl, h⟩
    refine ⟨?_, h⟩
    rw [show (⟨#[46]⟩ : ByteArray).data.toList = [46] from rfl, hcut]))
  have HTR := Aside0.mk (fun W => (Tryd.strings_TrimPrefix wh ⟨#[45]⟩ W).mono (R' := fun e w' => e = .returned (.string dg) ∧ w' = W) (by
    rintro e w' ⟨rfl, h⟩
    refine ⟨?_, h⟩
    rw [show (⟨#[45]⟩ : ByteArray).data.toList = [45] from rfl, hdg]))
  have hpa2 : (pa.size : Int) = 2 := by omega
  have hlen : (9223372036854775807 < dg.size + pa.size) = False := eq_false (by omega)
  have hlen2 : (9223372036854775807 < dg.size + 2) = False := eq_false (by omega)
  have hlen3 : (9223372036854775807 < (dg ++ pa).size) = False := eq_false (by rw [ByteArray.size_append]; omega)
  have hcv : ∀ W, (convert 9 49 (.string (dg ++ pa))).run Tryd.prog W = .ok (.slice (some ⟨W.heap.size, 0, none⟩) (dg ++ pa).size (grownCap W (dg ++ pa).size 0 5)) (Go.Lib.bytesWorld W 5 (dg ++ pa)) := fun W => Go.Lib.run_convert_string_bytes W 9 49 5 (dg ++ pa) Tryd.underlying9 Tryd.underlying49 Tryd.underlying5
  clear hcut hdg hs hm
  go_enter Tryd.func10, Tryd.ntmps10
  go_wp2_with (first
    | (go_at_call 24; (with_reducible refine HCUT.out.mono ?_); rintro e w1 ⟨rfl, nd, rfl⟩)
    | (go_at_call 25; (with_reducible refine (HTR.out _).mono ?_); rintro e w2 ⟨rfl, rfl⟩))
  have hlt : (2 : Int) ≤ (dg.size : Int) + 2 := by omega
  obtain ⟨WB, hWB⟩ : ∃ WB, WB = Lib.bytesWorld (w.drewN nd) 5 (dg ++ pa) := ⟨_, rfl⟩
  rw [← hWB]
  obtain ⟨SB, hSB⟩ : ∃ SB, SB = w.heap.size := ⟨_, rfl⟩
  rw [← hSB]
  have hcells : ∀ j : Nat, j < dg.size + 2 → WB.cell? ⟨SB, j, none⟩ = some (.int .u8 (B j)) := by
    intro j hj
    rw [hWB, hSB, hB j]
    exact Lib.bytesWorld_cell (w.drewN nd) 5 (dg ++ pa) j (by rw [ByteArray.size_append]; omega)
  obtain ⟨N, hN⟩ : ∃ N : Int, N = (dg.size : Int) + 2 := ⟨_, rfl⟩
  rw [← hN]
  obtain ⟨CP, hCP⟩ : ∃ c, c = grownCap (w.drewN nd) (dg.size + 2) 0 5 := ⟨_, rfl⟩
  rw [← hCP]
  obtain ⟨D, hD⟩ : ∃ D : Nat, D = dg.size + 2 := ⟨_, rfl⟩
  rw [← hD] at hcells hBr ⊢
  have hND : N = (D : Int) := by omega
  have HDW := Aside0.mk hD
  have HSZ := Aside0.mk hsz
  have HWB := Aside0.mk hWB
  have HSB := Aside0.mk hSB
  have HND := Aside0.mk hND
  have HBr := Aside0.mk hBr
  have HB := Aside0.mk hB
  have HCEL := Aside0.mk hcells
  clear hsz hD hWB hSB hND hBr hB hcells hN hCP hlt hcv HCUT HTR hlen hlen2 hlen3
  refine wp_loop_rounds (D + 1) ?_
  refine coinr_rounds (I := fun k a_ W => k ≤ D ∧ CoinRAct s wh pa dg (.slice (some ⟨SB, 0, none⟩) D CP) N (N - k) a_ ∧ W = WB) ?step D _ _ ?init
  case init =>
    refine ⟨Nat.le_refl _, ?_, rfl⟩
    rw [HND.out, show (D : Int) - (D : Int) = 0 by omega, ← HND.out]
    exact CoinRAct.mk ..
  case step =>
    rintro n a_ W ⟨hk, hA_, hW⟩ K1 hK1
    subst hW
    rcases n with _ | m
    · rw [show N - ((0 : Nat) : Int) = N by omega] at hA_
      rcases hA_ with ⟨t1, t6, t8, t9, t10, t11, t12, t13, t14, t15, t16, t17, t18, t19, t20, t21, t22, t23, t24, t25, t26, t27, t28, t29, t30, t34, t35, t36, t37, t38, t39, t40, t41, t42, t43, t44, t45, t46, t47, t48, t49, t50, t51, t52, t53, t54, t55, t56, t57, t58, t59, t60, t61, t62, t63, t64, t65, t66, t67, t68, t69, t70, t71, t72, t73, t74, t75, t76, t77, t78, t79, t80⟩
      have hbw : Below w.heap.size w W := by rw [HWB.out]; exact below_then (pw_below_drewN (Below.refl _ _) nd) (Nat.le_refl _) (HBE.out _)
      have HBW := Aside0.mk hbw
      have HGW := Aside0.mk (HG.out.below hbw)
      clear hbw hK1
      have hne' : (dg.toList = []) = False := eq_false (by intro h; rw [h] at hne; exact absurd hne (by decide))
      obtain ⟨ra, hvr, hrc0⟩ := coinr_rnp HGW.out
      have hl : (9223372036854775807 < wh.size + 2) = False := eq_false (by have := HWS.out; omega)
      have hl1 : (9223372036854775807 < wh.size + pa.size) = False := eq_false (by have := HWS.out; omega)
      by_cases h1 : 1 < dg.size
      · have hz1 := HZ.out h1
        have h1i : 1 < (dg.size : Int) := by omega
        go_wp2_with (first
          | (go_at_call 26; (with_reducible refine (Tryd.strconv_ParseInt_10_at64_range_var (wh ++ pa) ?hl64 HRG.out _ _ W hvr).mono ?_); (case hl64 => rw [ByteArray.size_append]; have := HWS.out; omega); rintro e w3 ⟨NN, rfl, hnn, hcells, hb3⟩; have HB3 := Aside0.mk (below_then HBW.out (below_size HBW.out) hb3); have HG3 := Aside0.mk (HG.out.below HB3.out); have hrc := pw_cell_below hb3 hrc0; have h2c : w3.cell? ⟨NN, 2, none⟩ = some (.iface 122 (.pointer (some ra))) := blk_cell hcells 2; clear hb3 hcells)
          | (go_at_call 27; (with_reducible refine (coinr_isrange NN ra _ h2c).mono ?_); rintro e w4 ⟨rfl, rfl⟩))
        go_ret2
        exact ⟨by simp, HB3.out⟩
      · have h1i : (1 < (dg.size : Int)) = False := eq_false (by omega)
        go_wp2_with (first
          | (go_at_call 26; (with_reducible refine (Tryd.strconv_ParseInt_10_at64_range_var (wh ++ pa) ?hl64 HRG.out _ _ W hvr).mono ?_); (case hl64 => rw [ByteArray.size_append]; have := HWS.out; omega); rintro e w3 ⟨NN, rfl, hnn, hcells, hb3⟩; have HB3 := Aside0.mk (below_then HBW.out (below_size HBW.out) hb3); have HG3 := Aside0.mk (HG.out.below HB3.out); have hrc := pw_cell_below hb3 hrc0; have h2c : w3.cell? ⟨NN, 2, none⟩ = some (.iface 122 (.pointer (some ra))) := blk_cell hcells 2; clear hb3 hcells)
          | (go_at_call 27; (with_reducible refine (coinr_isrange NN ra _ h2c).mono ?_); rintro e w4 ⟨rfl, rfl⟩))
        go_ret2
        exact ⟨by simp, HB3.out⟩
    · obtain ⟨j, hj⟩ : ∃ j : Nat, j = D - (m + 1) := ⟨_, rfl⟩
      have hjl : j < D := by omega
      have hcj := HCEL.out j hjl
      obtain ⟨hb1, hb2⟩ := HBr.out j hjl
      rw [show N - ((m + 1 : Nat) : Int) = (j : Int) by rw [HND.out]; omega] at hA_
      have hjN : (j : Int) < N := by rw [HND.out]; omega
      have hj1 : N - (m : Int) = (j : Int) + 1 := by rw [HND.out]; omega
      have HJ1 := Aside0.mk hj1
      have HJ := Aside0.mk hj
      have HK := Aside0.mk hk
      clear hj hk hj1
      have hjb : (j : Int) < 4294967296 := by have := HSZ.out; have := HDW.out; omega
      have h48 : (B j < 48) = False := eq_false (by omega)
      have h57 : (57 < B j) = False := eq_false (by omega)
      rcases hA_ with ⟨t1, t6, t8, t9, t10, t11, t12, t13, t14, t15, t16, t17, t18, t19, t20, t21, t22, t23, t24, t25, t26, t27, t28, t29, t30, t34, t35, t36, t37, t38, t39, t40, t41, t42, t43, t44, t45, t46, t47, t48, t49, t50, t51, t52, t53, t54, t55, t56, t57, t58, t59, t60, t61, t62, t63, t64, t65, t66, t67, t68, t69, t70, t71, t72, t73, t74, t75, t76, t77, t78, t79, t80⟩
      go_wp2
      refine hK1 m _ _ rfl ⟨by have := HK.out; omega, ?_, rfl⟩
      rw [HJ1.out]
      exact CoinRAct.mk ..

set_option maxHeartbeats 4000000 in
set_option maxRecDepth 100000 in
theorem coinr_sign (s wh pa dg : ByteArray) (w : World) (m : Int) (hG : Go.Proofs.YtkjofbdlholmbaaDoor.M.Laid w) (hws : wh.size < 4294967281) (hm : w.cell? ⟨3, 0, none⟩ = some (.int .i64 m))
    (hs : s.size < 4294967281) (hcut : Go.Lib.cut s.data.toList [46] = (wh.data.toList, pa.data.toList, true)) (hpa : pa.size = 2)
    (hdg : Go.Lib.trimPrefix wh.data.toList [45] = dg.data.toList) (hsz : dg.size + 2 ≤ 4294967296) (B : Nat → Int) (hB : ∀ j, B j = ((dg ++ pa).data.toList.getD j 0).toNat) (J : Nat) (hJ : J < dg.size + 2) (hBr : ∀ j, j < J → 48 ≤ B j ∧ B j ≤ 57) (hbad : B J < 48 ∨ 57 < B J) :
    Calls Tryd.prog 10 #[.string s] w fun e w' => e = .returned (.tuple #[.int .i64 0, .iface 37 (.int .i64 15)]) ∧ Below w.heap.size w w' := by
  have HG := Aside0.mk hG
  have HBAD := Aside0.mk hbad
  have HBE := Aside0.mk (fun W : World => coinr_bytes W 5 (dg ++ pa))
  have HWS := Aside0.mk hws
  clear hG hws hbad
  have HCUT := Aside0.mk ((Tryd.strings_Cut s ⟨#[46]⟩ m w hs hm).mono (R' := fun e w' => e = .returned (.tuple #[.string wh, .string pa, .bool true]) ∧ ∃ n, w' = w.drewN n) (by
    rintro e w' ⟨rfl, h⟩
    refine ⟨?_, h⟩
    rw [show (⟨#[46]⟩ : ByteArray).data.toList = [46] from rfl, hcut]))
  have HTR := Aside0.mk (fun W => (Tryd.strings_TrimPrefix wh ⟨#[45]⟩ W).mono (R' := fun e w' => e = .returned (.string dg) ∧ w' = W) (by
    rintro e w' ⟨rfl, h⟩
    refine ⟨?_, h⟩
    rw [show (⟨#[45]⟩ : ByteArray).data.toList = [45] from rfl, hdg]))
  have hpa2 : (pa.size : Int) = 2 := by omega
  have hlen : (9223372036854775807 < dg.size + pa.size) = False := eq_false (by omega)
  have hlen2 : (9223372036854775807 < dg.size + 2) = False := eq_false (by omega)
  have hlen3 : (9223372036854775807 < (dg ++ pa).size) = False := eq_false (by rw [ByteArray.size_append]; omega)
  have hcv : ∀ W, (convert 9 49 (.string (dg ++ pa))).run Tryd.prog W = .ok (.slice (some ⟨W.heap.size, 0, none⟩) (dg ++ pa).size (grownCap W (dg ++ pa).size 0 5)) (Go.Lib.bytesWorld W 5 (dg ++ pa)) := fun W => Go.Lib.run_convert_string_bytes W 9 49 5 (dg ++ pa) Tryd.underlying9 Tryd.underlying49 Tryd.underlying5
  clear hcut hdg hs hm
  go_enter Tryd.func10, Tryd.ntmps10
  go_wp2_with (first
    | (go_at_call 24; (with_reducible refine HCUT.out.mono ?_); rintro e w1 ⟨rfl, nd, rfl⟩)
    | (go_at_call 25; (with_reducible refine (HTR.out _).mono ?_); rintro e w2 ⟨rfl, rfl⟩))
  have hlt : (2 : Int) ≤ (dg.size : Int) + 2 := by omega
  obtain ⟨WB, hWB⟩ : ∃ WB, WB = Lib.bytesWorld (w.drewN nd) 5 (dg ++ pa) := ⟨_, rfl⟩
  rw [← hWB]
  obtain ⟨SB, hSB⟩ : ∃ SB, SB = w.heap.size := ⟨_, rfl⟩
  rw [← hSB]
  have hcells : ∀ j : Nat, j < dg.size + 2 → WB.cell? ⟨SB, j, none⟩ = some (.int .u8 (B j)) := by
    intro j hj
    rw [hWB, hSB, hB j]
    exact Lib.bytesWorld_cell (w.drewN nd) 5 (dg ++ pa) j (by rw [ByteArray.size_append]; omega)
  obtain ⟨N, hN⟩ : ∃ N : Int, N = (dg.size : Int) + 2 := ⟨_, rfl⟩
  rw [← hN]
  obtain ⟨CP, hCP⟩ : ∃ c, c = grownCap (w.drewN nd) (dg.size + 2) 0 5 := ⟨_, rfl⟩
  rw [← hCP]
  obtain ⟨D, hD⟩ : ∃ D : Nat, D = dg.size + 2 := ⟨_, rfl⟩
  rw [← hD] at hcells hJ ⊢
  have hND : N = (D : Int) := by omega
  have HDW := Aside0.mk hD
  have HSZ := Aside0.mk hsz
  have HWB := Aside0.mk hWB
  have HSB := Aside0.mk hSB
  have HND := Aside0.mk hND
  have HBr := Aside0.mk hBr
  have HB := Aside0.mk hB
  have HCEL := Aside0.mk hcells
  have HJ0 := Aside0.mk hJ
  clear hJ hsz hD hWB hSB hND hBr hB hcells hN hCP hlt hcv HCUT HTR hlen hlen2 hlen3
  refine wp_loop_rounds (J + 1) ?_
  refine coinr_rounds (I := fun k a_ W => k ≤ J ∧ CoinRAct s wh pa dg (.slice (some ⟨SB, 0, none⟩) D CP) N ((J : Int) - k) a_ ∧ W = WB) ?step J _ _ ?init
  case init =>
    refine ⟨Nat.le_refl _, ?_, rfl⟩
    rw [show (J : Int) - (J : Int) = 0 by omega]
    exact CoinRAct.mk ..
  case step =>
    rintro n a_ W ⟨hk, hA_, hW⟩ K1 hK1
    subst hW
    rcases n with _ | m
    · rw [show (J : Int) - ((0 : Nat) : Int) = J by omega] at hA_
      rcases hA_ with ⟨t1, t6, t8, t9, t10, t11, t12, t13, t14, t15, t16, t17, t18, t19, t20, t21, t22, t23, t24, t25, t26, t27, t28, t29, t30, t34, t35, t36, t37, t38, t39, t40, t41, t42, t43, t44, t45, t46, t47, t48, t49, t50, t51, t52, t53, t54, t55, t56, t57, t58, t59, t60, t61, t62, t63, t64, t65, t66, t67, t68, t69, t70, t71, t72, t73, t74, t75, t76, t77, t78, t79, t80⟩
      have hbw : Below w.heap.size w W := by rw [HWB.out]; exact below_then (pw_below_drewN (Below.refl _ _) nd) (Nat.le_refl _) (HBE.out _)
      have HBW := Aside0.mk hbw
      have HGW := Aside0.mk (HG.out.below hbw)
      clear hbw hK1
      have hjl := HJ0.out
      have hcj := HCEL.out J hjl
      have hjN : (J : Int) < N := by have := HJ0.out; rw [HND.out]; omega
      have hjb : (J : Int) < 4294967296 := by have := HSZ.out; have := HDW.out; have := HJ0.out; omega
      by_cases h48 : B J < 48
      · go_wp2
        go_ret2
        exact ⟨by simp, HBW.out⟩
      · have h57 : 57 < B J := by have := HBAD.out; omega
        go_wp2
        go_ret2
        exact ⟨by simp, HBW.out⟩
    · obtain ⟨j, hj⟩ : ∃ j : Nat, j = J - (m + 1) := ⟨_, rfl⟩
      have hjj : j < J := by omega
      have hjl : j < D := by have := HJ0.out; omega
      have hcj := HCEL.out j hjl
      obtain ⟨hb1, hb2⟩ := HBr.out j hjj
      rw [show (J : Int) - ((m + 1 : Nat) : Int) = (j : Int) by omega] at hA_
      have hjN : (j : Int) < N := by rw [HND.out]; omega
      have hj1 : (J : Int) - (m : Int) = (j : Int) + 1 := by omega
      have HJ1 := Aside0.mk hj1
      have HJ := Aside0.mk hj
      have HK := Aside0.mk hk
      clear hj hk hj1 hjj
      have hjb : (j : Int) < 4294967296 := by have := HSZ.out; have := HDW.out; omega
      have h48 : (B j < 48) = False := eq_false (by omega)
      have h57 : (57 < B j) = False := eq_false (by omega)
      rcases hA_ with ⟨t1, t6, t8, t9, t10, t11, t12, t13, t14, t15, t16, t17, t18, t19, t20, t21, t22, t23, t24, t25, t26, t27, t28, t29, t30, t34, t35, t36, t37, t38, t39, t40, t41, t42, t43, t44, t45, t46, t47, t48, t49, t50, t51, t52, t53, t54, t55, t56, t57, t58, t59, t60, t61, t62, t63, t64, t65, t66, t67, t68, t69, t70, t71, t72, t73, t74, t75, t76, t77, t78, t79, t80⟩
      go_wp2
      refine hK1 m _ _ rfl ⟨by have := HK.out; omega, ?_, rfl⟩
      rw [HJ1.out]
      exact CoinRAct.mk ..

set_option maxHeartbeats 4000000 in
set_option maxRecDepth 100000 in
theorem coinr_cut (s wh pa : ByteArray) (ok : Bool) (w : World) (m : Int) (hG : Go.Proofs.YtkjofbdlholmbaaDoor.M.Laid w) (hm : w.cell? ⟨3, 0, none⟩ = some (.int .i64 m))
    (hs : s.size < 4294967281) (hcut : Go.Lib.cut s.data.toList [46] = (wh.data.toList, pa.data.toList, ok)) (hpa : ok = true → pa.size ≠ 2) :
    Calls Tryd.prog 10 #[.string s] w fun e w' => e = .returned (.tuple #[.int .i64 0, .iface 37 (.int .i64 15)]) ∧ Below w.heap.size w w' := by
  have HCUT := Aside0.mk ((Tryd.strings_Cut s ⟨#[46]⟩ m w hs hm).mono (R' := fun e w' => e = .returned (.tuple #[.string wh, .string pa, .bool ok]) ∧ ∃ n, w' = w.drewN n) (by
    rintro e w' ⟨rfl, h⟩
    refine ⟨?_, h⟩
    rw [show (⟨#[46]⟩ : ByteArray).data.toList = [46] from rfl, hcut]))
  clear hcut hs hm
  cases ok with
  | false =>
    go_enter Tryd.func10, Tryd.ntmps10
    go_wp2_with (first | (go_at_call 24; (with_reducible refine HCUT.out.mono ?_); rintro e w1 ⟨rfl, nd, rfl⟩))
    go_ret2
    exact ⟨by simp, pw_below_drewN (Below.refl _ _) nd⟩
  | true =>
    have hpa2 : ¬ (pa.size : Int) = 2 := by have := hpa rfl; omega
    go_enter Tryd.func10, Tryd.ntmps10
    go_wp2_with (first | (go_at_call 24; (with_reducible refine HCUT.out.mono ?_); rintro e w1 ⟨rfl, nd, rfl⟩))
    go_ret2
    exact ⟨by simp, pw_below_drewN (Below.refl _ _) nd⟩
/-- What coin.Read hands back, of any text (of a length that matters). -/
def coin_Read.f (a0 : ByteArray) : Option (Int × Option Int) :=
  if a0.size ≤ 1000 ∧ (Go.Lib.cut a0.data.toList [46]).1.length ≤ 1000 ∧ (Go.Lib.trimPrefix (Go.Lib.cut a0.data.toList [46]).1 [45]).length ≤ 1000 then
    (if (Go.Lib.cut a0.data.toList [46]).2.2 = true ∧ (Go.Lib.cut a0.data.toList [46]).2.1.length = 2 then
      (if (∀ b ∈ Go.Lib.trimPrefix (Go.Lib.cut a0.data.toList [46]).1 [45] ++ (Go.Lib.cut a0.data.toList [46]).2.1, 48 ≤ b.toNat ∧ b.toNat ≤ 57) then
        (if Go.Lib.trimPrefix (Go.Lib.cut a0.data.toList [46]).1 [45] = [] then some (0, some 15)
        else if 1 < (Go.Lib.trimPrefix (Go.Lib.cut a0.data.toList [46]).1 [45]).length ∧ (Go.Lib.trimPrefix (Go.Lib.cut a0.data.toList [46]).1 [45]).getD 0 0 = 48 then some (0, some 15)
        else match Go.Lib.parseIntB 64 ((Go.Lib.cut a0.data.toList [46]).1 ++ (Go.Lib.cut a0.data.toList [46]).2.1) with
          | .ok v => (coin_Coin_Text.f v).bind fun t => if t = a0 then some (v, none) else some (0, some 15)
          | .range => some (0, some 12)
          | _ => none)
      else some (0, some 15))
    else some (0, some 15))
  else none
theorem coinr_tl (s : ByteArray) : s.toList = s.data.toList := by
  obtain ⟨⟨l⟩⟩ := s
  exact ByteArray.toList_mk l
theorem coinr_first : ∀ (l : List UInt8), (¬ ∀ b ∈ l, 48 ≤ b.toNat ∧ b.toNat ≤ 57) → ∃ J, J < l.length ∧ (∀ j, j < J → 48 ≤ ((l.getD j 0).toNat : Int) ∧ ((l.getD j 0).toNat : Int) ≤ 57) ∧ (((l.getD J 0).toNat : Int) < 48 ∨ 57 < ((l.getD J 0).toNat : Int))
  | [], h => absurd (fun b hb => absurd hb (by simp)) h
  | c :: r, h => by
    by_cases e : 48 ≤ c.toNat ∧ c.toNat ≤ 57
    · obtain ⟨J, h1, h2, h3⟩ := coinr_first r (fun k => h (fun b hb => by
        rcases List.mem_cons.1 hb with rfl | hb
        · exact e
        · exact k b hb))
      refine ⟨J + 1, by simp; omega, fun j hj => ?_, by simpa using h3⟩
      cases j with
      | zero => simp; omega
      | succ j => simpa using h2 j (by omega)
    · exact ⟨0, by simp, fun j hj => absurd hj (by omega), by simp; omega⟩
theorem coin_Read.calls (a0 : ByteArray) (r1 : Int) (r2 : Option Int) (w : World) (hG : Go.Proofs.YtkjofbdlholmbaaDoor.M.Laid w) (h : coin_Read.f a0 = some (r1, r2)) :
    Calls Tryd.prog 10 #[.string a0] w fun e w' => e = .returned (.tuple #[.int .i64 r1, errW r2]) ∧ Below w.heap.size w w' := by
  unfold coin_Read.f at h
  split at h
  · rename_i hsz
    obtain ⟨mx, hmx⟩ := hG.mx
    generalize hcut : Go.Lib.cut a0.data.toList [46] = C at h hsz
    obtain ⟨wl, pl, ok⟩ := C
    simp only at h hsz
    have q2 : a0.size < 4294967281 := by omega
    split at h
    · rename_i c1
      obtain ⟨rfl, c2⟩ := c1
      generalize hdl : Go.Lib.trimPrefix wl [45] = dl at h hsz
      have s1 : (⟨wl.toArray⟩ : ByteArray).size = wl.length := by simp [ByteArray.size]
      have s2 : (⟨pl.toArray⟩ : ByteArray).size = pl.length := by simp [ByteArray.size]
      have s3 : (⟨dl.toArray⟩ : ByteArray).size = dl.length := by simp [ByteArray.size]
      have q1 : (⟨wl.toArray⟩ : ByteArray).size < 4294967281 := by omega
      have q3 : Go.Lib.cut a0.data.toList [46] = ((⟨wl.toArray⟩ : ByteArray).data.toList, (⟨pl.toArray⟩ : ByteArray).data.toList, true) := by simpa using hcut
      have q4 : (⟨pl.toArray⟩ : ByteArray).size = 2 := by omega
      have q5 : Go.Lib.trimPrefix (⟨wl.toArray⟩ : ByteArray).data.toList [45] = (⟨dl.toArray⟩ : ByteArray).data.toList := by simpa using hdl
      have q6 : (⟨dl.toArray⟩ : ByteArray).size + 2 ≤ 4294967296 := by omega
      have q7 : ∀ j, (fun j => (((dl ++ pl).getD j 0).toNat : Int)) j = ((((⟨dl.toArray⟩ ++ ⟨pl.toArray⟩ : ByteArray)).data.toList.getD j 0).toNat : Int) := by intro j; simp
      have ed : ((⟨wl.toArray⟩ ++ ⟨pl.toArray⟩ : ByteArray)).data.toList = wl ++ pl := by simp
      have es : ((⟨wl.toArray⟩ ++ ⟨pl.toArray⟩ : ByteArray)).size ≤ 9223372036854775806 := by rw [ByteArray.size_append]; omega
      split at h
      · rename_i c3
        have q8 : ∀ j, j < (⟨dl.toArray⟩ : ByteArray).size + 2 → 48 ≤ (fun j => (((dl ++ pl).getD j 0).toNat : Int)) j ∧ (fun j => (((dl ++ pl).getD j 0).toNat : Int)) j ≤ 57 := by
          intro j hj
          have hj' : j < (dl ++ pl).length := by rw [List.length_append]; omega
          have hm := c3 ((dl ++ pl).getD j 0) (by rw [show (dl ++ pl).getD j 0 = (dl ++ pl)[j] by unfold List.getD; rw [List.getElem?_eq_getElem hj']; rfl]; exact List.getElem_mem hj')
          show (48 : Int) ≤ (((dl ++ pl).getD j 0).toNat : Int) ∧ (((dl ++ pl).getD j 0).toNat : Int) ≤ 57
          omega
        split at h
        · rename_i c4
          simp only [Option.some.injEq, Prod.mk.injEq] at h
          obtain ⟨rfl, rfl⟩ := h
          refine (coinr_empty a0 ⟨wl.toArray⟩ ⟨pl.toArray⟩ ⟨dl.toArray⟩ w mx hG (by rw [c4, coinr_tl]; rfl) q1 hmx q2 q3 q4 q5 q6 _ q7 q8).mono ?_
          rintro e w' ⟨rfl, hb⟩
          exact ⟨by rw [errW_some], hb⟩
        · rename_i c4
          have hne : (⟨dl.toArray⟩ : ByteArray).toList.isEmpty = false := by
            cases dl with
            | nil => exact absurd rfl c4
            | cons x xs => simp [ByteArray.isEmpty]
          split at h
          · rename_i c5
            simp only [Option.some.injEq, Prod.mk.injEq] at h
            obtain ⟨rfl, rfl⟩ := h
            have hz : (((⟨dl.toArray⟩ : ByteArray)[0]'(by omega)).toNat : Int) = 48 := by
              cases dl with
              | nil => exact absurd rfl c4
              | cons x xs =>
                have e1 : x = 48 := by simpa using c5.2
                subst e1
                rfl
            refine (coinr_zero a0 ⟨wl.toArray⟩ ⟨pl.toArray⟩ ⟨dl.toArray⟩ w mx hG hne (by omega) hz q1 hmx q2 q3 q4 q5 q6 _ q7 q8).mono ?_
            rintro e w' ⟨rfl, hb⟩
            exact ⟨by rw [errW_some], hb⟩
          · rename_i c5
            have hz : ∀ h : 1 < (⟨dl.toArray⟩ : ByteArray).size, (((⟨dl.toArray⟩ : ByteArray)[0]'(by omega)).toNat : Int) ≠ 48 := by
              intro hl e
              refine c5 ⟨by omega, ?_⟩
              cases dl with
              | nil => exact absurd rfl c4
              | cons x xs =>
                have e1 : (x.toNat : Int) = 48 := e
                show x = 48
                exact UInt8.toNat_inj.mp (by show x.toNat = 48; omega)
            split at h
            · rename_i v hv
              obtain ⟨t, ht, h⟩ := Option.bind_eq_some_iff.mp h
              have hpi : coinr_PI (⟨wl.toArray⟩ ++ ⟨pl.toArray⟩) 10 64 = some (v, none) := by
                unfold coinr_PI
                rw [if_pos ⟨rfl, rfl, es⟩, ed, hv]
              by_cases c6 : t = a0
              · rw [if_pos c6] at h
                injection h with h
                injection h with e1 e2
                subst e1 e2
                refine (coinr_walk a0 ⟨wl.toArray⟩ ⟨pl.toArray⟩ ⟨dl.toArray⟩ v w mx hG hne hz hpi (by rw [ht, c6]) q1 hmx q2 q3 q4 q5 q6 _ q7 q8).mono ?_
                rintro e w' ⟨rfl, hb⟩
                exact ⟨by rw [errW_none], hb⟩
              · rw [if_neg c6] at h
                injection h with h
                injection h with e1 e2
                subst e1 e2
                have hts : (t.toList == a0.toList) = false := by
                  rw [beq_eq_false_iff_ne, coinr_tl, coinr_tl]
                  exact fun e => c6 (ByteArray.ext (Array.toList_inj.mp e))
                refine (coinr_text a0 ⟨wl.toArray⟩ ⟨pl.toArray⟩ ⟨dl.toArray⟩ v t w mx hG hne hz hpi ht hts q1 hmx q2 q3 q4 q5 q6 _ q7 q8).mono ?_
                rintro e w' ⟨rfl, hb⟩
                exact ⟨by rw [errW_some], hb⟩
            · rename_i hv
              simp only [Option.some.injEq, Prod.mk.injEq] at h
              obtain ⟨rfl, rfl⟩ := h
              refine (coinr_range a0 ⟨wl.toArray⟩ ⟨pl.toArray⟩ ⟨dl.toArray⟩ w mx hG hne hz (by rw [ed]; exact hv) q1 hmx q2 q3 q4 q5 q6 _ q7 q8).mono ?_
              rintro e w' ⟨rfl, hb⟩
              exact ⟨by rw [errW_some], hb⟩
            · exact absurd h (by simp)
      · rename_i c3
        simp only [Option.some.injEq, Prod.mk.injEq] at h
        obtain ⟨rfl, rfl⟩ := h
        obtain ⟨J, j1, j2, j3⟩ := coinr_first _ c3
        rw [List.length_append] at j1
        refine (coinr_sign a0 ⟨wl.toArray⟩ ⟨pl.toArray⟩ ⟨dl.toArray⟩ w mx hG q1 hmx q2 q3 q4 q5 q6 (fun j => (((dl ++ pl).getD j 0).toNat : Int)) q7 J (by omega) j2 j3).mono ?_
        rintro e w' ⟨rfl, hb⟩
        exact ⟨by rw [errW_some], hb⟩
    · rename_i c1
      simp only [Option.some.injEq, Prod.mk.injEq] at h
      obtain ⟨rfl, rfl⟩ := h
      refine (coinr_cut a0 ⟨wl.toArray⟩ ⟨pl.toArray⟩ ok w mx hG hmx q2 (by simpa using hcut) (fun e e2 => c1 ⟨e, by simpa [ByteArray.size] using e2⟩)).mono ?_
      rintro e w' ⟨rfl, hb⟩
      exact ⟨by rw [errW_some], hb⟩
  · exact absurd h (by simp)
end


end Go.Proofs.YtkjofbdlholmbaaDoor.PCoinReads
