-- Printed by a wrapper of this session's round the kit's print.py; Lean checks it.
import Derived.Test.YtkjofbdlholmbaaDoorPCoinSumsx0
import Derived.Test.YtkjofbdlholmbaaDoorPCoinSumsx1
namespace Go.Proofs.YtkjofbdlholmbaaDoor.PCoinSums
open Go.RowKit Go.Proofs.YtkjofbdlholmbaaDoorW.PrintWords Go.Proofs.YtkjofbdlholmbaaDoorW.PrintLast Go.Proofs.YtkjofbdlholmbaaDoorW.PrintMore
attribute [local go_sem] max2_int min2_int max_two min_two max_three min_three max_four min_four   -- for this text's walks alone
set_option linter.unusedVariables false
set_option linter.unusedSimpArgs false

/-! ### coin_Read: function 10 -/
/-- The number that a text of money tells, where the text is well made. -/
def coin_Read.num (a0 : ByteArray) : Option Int :=
  if (a0.size < 4294967281 ∧ (Go.Lib.cut a0.data.toList [46]).1.length < 4294967281 ∧ (Go.Lib.cut a0.data.toList [46]).2.2 = true ∧ (Go.Lib.cut a0.data.toList [46]).2.1.length = 2 ∧ (Go.Lib.trimPrefix (Go.Lib.cut a0.data.toList [46]).1 [45]).length + 2 ≤ 4294967296) ∧ Go.Lib.trimPrefix (Go.Lib.cut a0.data.toList [46]).1 [45] ≠ [] ∧ (1 < (Go.Lib.trimPrefix (Go.Lib.cut a0.data.toList [46]).1 [45]).length → (Go.Lib.trimPrefix (Go.Lib.cut a0.data.toList [46]).1 [45]).getD 0 0 ≠ 48) ∧ (∀ b ∈ Go.Lib.trimPrefix (Go.Lib.cut a0.data.toList [46]).1 [45] ++ (Go.Lib.cut a0.data.toList [46]).2.1, 48 ≤ b.toNat ∧ b.toNat ≤ 57) then
    (match Go.Lib.parseIntB 64 ((Go.Lib.cut a0.data.toList [46]).1 ++ (Go.Lib.cut a0.data.toList [46]).2.1) with | .ok v => some v | _ => none)
  else none
def coin_Read.f (a0 : ByteArray) : Option (Int × Option Int) :=
  (coin_Read.num a0).bind fun n => if coin_Coin_Text.f n = some a0 then some (n, none) else none
inductive CoinRAct (s wh pa dg : ByteArray) (SL : Value) (N i : Int) : Act → Prop
  | mk (t1 t6 t8 t9 t10 t11 t12 t13 t14 t15 t16 t17 t18 t19 t20 t21 t22 t23 t24 t25 t26 t27 t28 t29 t30 t34 t35 t36 t37 t38 t39 t40 t41 t42 t43 t44 t45 t46 t47 t48 t49 t50 t51 t52 t53 t54 t55 t56 t57 t58 t59 t60 t61 t62 t63 t64 t65 t66 t67 t68 t69 t70 t71 t72 t73 t74 t75 t76 t77 t78 t79 t80 : Value) : CoinRAct s wh pa dg SL N i { tmps := #[Value.string s, t1, Value.int IntKind.i64 0, Value.nilIface, Value.string wh, Value.string pa, t6, Value.string dg, t8, t9, t10, t11, t12, t13, t14, t15, t16, t17, t18, t19, t20, t21, t22, t23, t24, t25, t26, t27, t28, t29, t30, SL, Value.int IntKind.i64 N, Value.int IntKind.i64 i, t34, t35, t36, t37, t38, t39, t40, t41, t42, t43, t44, t45, t46, t47, t48, t49, t50, t51, t52, t53, t54, t55, t56, t57, t58, t59, t60, t61, t62, t63, t64, t65, t66, t67, t68, t69, t70, t71, t72, t73, t74, t75, t76, t77, t78, t79, t80], defers := [] }
theorem coinr_freeze {B : Nat} {w W : World} (h : Below B w W) (g o n : Nat) (hB : B ≤ g) : Below B w (W.freeze ⟨g, o, none⟩ n) := by
  unfold World.freeze
  split
  · exact h
  · refine h.trans ⟨rfl, rfl, rfl, ?_, fun k hk => ?_⟩
    · simp
    · simp only []
      rw [Array.getElem?_modify, if_neg (by show ¬ g = k; omega)]
theorem coinr_bytes (w : World) (e : TypeId) (t : ByteArray) : Below w.heap.size w (Go.Lib.bytesWorld w e t) := by
  unfold Go.Lib.bytesWorld
  exact coinr_freeze (below_alloc (below_drew1 (Below.refl _ _)) _) _ _ _ (Nat.le_refl _)
def coinr_PI (a0 : ByteArray) (a1 : Int) (a2 : Int) : Option (Int × Option Int) :=
  if a1 = 10 ∧ a2 = 64 ∧ a0.size ≤ 9223372036854775806 then (match Go.Lib.parseIntB 64 a0.data.toList with | .ok v => some (v, none) | _ => none) else none
theorem coinr_PIcalls (a0 : ByteArray) (a1 a2 : Int) (r1 : Int) (r2 : Option Int) (w : World) (h : coinr_PI a0 a1 a2 = some (r1, r2)) :
    Calls Tryd.prog 26 #[.string a0, .int .i64 a1, .int .i64 a2] w fun e w' => e = .returned (.tuple #[.int .i64 r1, .nilIface]) ∧ r2 = none ∧ Below w.heap.size w w' := by
  unfold coinr_PI at h
  split at h
  · rename_i hb
    obtain ⟨rfl, rfl, hs⟩ := hb
    split at h
    · rename_i v hv
      simp only [Option.some.injEq, Prod.mk.injEq] at h
      obtain ⟨rfl, rfl⟩ := h
      refine (Tryd.strconv_ParseInt_10_at64_ok a0 hs v hv w).mono ?_
      rintro e w' ⟨rfl, h⟩
      refine ⟨rfl, rfl, ?_⟩
      rcases h with rfl | ⟨t, rfl⟩
      · exact Below.refl _ _
      · exact coinr_bytes _ _ _
    · exact absurd h (by simp)
  · exact absurd h (by simp)
set_option maxHeartbeats 4000000 in
set_option maxRecDepth 100000 in
theorem coinr_is (tp : TypeId) (p : Value) (w : World) : Calls Tryd.prog 27 #[.nilIface, .iface tp p] w fun e w' => e = .returned (.bool false) ∧ w' = w := by
  have hu := Tryd.underlying26
  have hx : ∀ W, (Op.equal 26 .nilIface (.iface tp p)).run Tryd.prog W = .ok false W := fun W => by
    rw [Op.equal, show Op.maxDepth = 9999 + 1 from rfl, Op.equalIn]
    simp [run_underlying hu, go_sem]
  have hx2 : ∀ W, (binOp BinOp.eql 26 Value.nilIface (Value.iface tp p)).run Tryd.prog W = .ok (.bool false) W := fun W => by
    simp [binOp, hx, go_sem]
  go_enter Tryd.func27, Tryd.ntmps27
  go_upto_region 1 with (fail)
  go_upto_region 2 with (fail)
  go_wp2
  go_ret
  exact ⟨rfl, rfl⟩

theorem coinr_rng {w : World} (hG : Go.Proofs.YtkjofbdlholmbaaDoor.M.Laid w) : ∃ tp p, w.cell? ⟨0, 0, none⟩ = some (.iface tp p) := by
  obtain ⟨tp, p, h⟩ := hG.rng
  refine ⟨tp, p, ?_⟩
  unfold World.var? at h
  rw [show Tryd.prog.globalNamed "strconv.ErrRange" = some 0 from by kernel_rfl] at h
  simp only [Option.bind_some] at h
  split at h
  · rename_i cs _ _ hc
    simp only [Option.some.injEq] at h
    subst h
    simp [World.cell?, hc]
  · exact absurd h (by simp)
theorem coinr_rounds {P : Program} {c : Code} {Q : Exit → Act → World → Prop} (I : Nat → Act → World → Prop)
    (step : ∀ n a w, I n a w → ∀ K : Act → World → Prop, (∀ m a' w', n = m + 1 → I m a' w' → K a' w') → c.wp P (Exit.then K Q) a w) :
    ∀ n a w, I n a w → Code.rounds P c Q (n + 1) a w := by
  intro n
  induction n with
  | zero => intro a w h; exact step 0 a w h _ (fun m a' w' e _ => absurd e (by omega))
  | succ n ih => intro a w h; exact step (n + 1) a w h _ (fun m a' w' e h' => by rw [show m = n by omega] at h'; exact ih a' w' h')
set_option maxHeartbeats 4000000 in
set_option maxRecDepth 100000 in
theorem coinr_walk (s wh pa dg : ByteArray) (n : Int) (w : World) (m : Int) (hG : Go.Proofs.YtkjofbdlholmbaaDoor.M.Laid w) (hne : dg.toList.isEmpty = false) (hz : ∀ h : 1 < dg.size, ((dg[0]'(by omega)).toNat : Int) ≠ 48) (hpi : coinr_PI (wh ++ pa) 10 64 = some (n, none)) (htx : coin_Coin_Text.f n = some s) (hws : wh.size < 4294967281) (hm : w.cell? ⟨3, 0, none⟩ = some (.int .i64 m))
    (hs : s.size < 4294967281) (hcut : Go.Lib.cut s.data.toList [46] = (wh.data.toList, pa.data.toList, true)) (hpa : pa.size = 2)
    (hdg : Go.Lib.trimPrefix wh.data.toList [45] = dg.data.toList) (hsz : dg.size + 2 ≤ 4294967296) (B : Nat → Int) (hB : ∀ j, B j = ((dg ++ pa).data.toList.getD j 0).toNat) (hBr : ∀ j, j < dg.size + 2 → 48 ≤ B j ∧ B j ≤ 57) :
    Calls Tryd.prog 10 #[.string s] w fun e w' => e = .returned (.tuple #[.int .i64 n, .nilIface]) ∧ Below w.heap.size w w' := by
  have HG := Aside0.mk hG
  have HZ := Aside0.mk hz
  have HPI := Aside0.mk hpi
  have HTX := Aside0.mk htx
  have HBE := Aside0.mk (fun W : World => coinr_bytes W 5 (dg ++ pa))
  have HWS := Aside0.mk hws
  clear hG hz hpi htx hws
  have HCUT := Aside0.mk ((Tryd.strings_Cut s ⟨#[46]⟩ m w hs hm).mono (R' := fun e w' => e = .returned (.tuple #[.string wh, .string pa, .bool true]) ∧ ∃ n, w' = w.drewN n) (by
    rintro e w' ⟨rfl, h⟩
    refine ⟨?_, h⟩
    rw [show (⟨#[46]⟩ : ByteArray).data.toList = [46] from rfl, hcut]))
  have HTR := Aside0.mk (fun W => (Tryd.strings_TrimPrefix wh ⟨#[45]⟩ W).mono (R' := fun e w' => e = .returned (.string dg) ∧ w' = W) (by
    rintro e w' ⟨rfl, h⟩
    refine ⟨?_, h⟩
    rw [show (⟨#[45]⟩ : ByteArray).data.toList = [45] from rfl, hdg]))
  have hpa2 : (pa.size : Int) = 2 := by omega
  have hlen : (9223372036854775807 < dg.size + pa.size) = False := eq_false (by omega)
  have hlen2 : (9223372036854775807 < dg.size + 2) = False := eq_false (by omega)
  have hlen3 : (9223372036854775807 < (dg ++ pa).size) = False := eq_false (by rw [ByteArray.size_append]; omega)
  have hcv : ∀ W, (convert 9 49 (.string (dg ++ pa))).run Tryd.prog W = .ok (.slice (some ⟨W.heap.size, 0, none⟩) (dg ++ pa).size (grownCap W (dg ++ pa).size 0 5)) (Go.Lib.bytesWorld W 5 (dg ++ pa)) := fun W => Go.Lib.run_convert_string_bytes W 9 49 5 (dg ++ pa) Tryd.underlying9 Tryd.underlying49 Tryd.underlying5
  clear hcut hdg hs hm
  go_enter Tryd.func10, Tryd.ntmps10
  go_wp2_with (first
    | (go_at_call 24; (with_reducible refine HCUT.out.mono ?_); rintro e w1 ⟨rfl, nd, rfl⟩)
    | (go_at_call 25; (with_reducible refine (HTR.out _).mono ?_); rintro e w2 ⟨rfl, rfl⟩))
  have hlt : (2 : Int) ≤ (dg.size : Int) + 2 := by omega
  obtain ⟨WB, hWB⟩ : ∃ WB, WB = Lib.bytesWorld (w.drewN nd) 5 (dg ++ pa) := ⟨_, rfl⟩
  rw [← hWB]
  obtain ⟨SB, hSB⟩ : ∃ SB, SB = w.heap.size := ⟨_, rfl⟩
  rw [← hSB]
  have hcells : ∀ j : Nat, j < dg.size + 2 → WB.cell? ⟨SB, j, none⟩ = some (.int .u8 (B j)) := by
    intro j hj
    rw [hWB, hSB, hB j]
    exact Lib.bytesWorld_cell (w.drewN nd) 5 (dg ++ pa) j (by rw [ByteArray.size_append]; omega)
  obtain ⟨N, hN⟩ : ∃ N : Int, N = (dg.size : Int) + 2 := ⟨_, rfl⟩
  rw [← hN]
  obtain ⟨CP, hCP⟩ : ∃ c, c = grownCap (w.drewN nd) (dg.size + 2) 0 5 := ⟨_, rfl⟩
  rw [← hCP]
  obtain ⟨D, hD⟩ : ∃ D : Nat, D = dg.size + 2 := ⟨_, rfl⟩
  rw [← hD] at hcells hBr ⊢
  have hND : N = (D : Int) := by omega
  have HDW := Aside0.mk hD
  have HSZ := Aside0.mk hsz
  have HWB := Aside0.mk hWB
  have HSB := Aside0.mk hSB
  have HND := Aside0.mk hND
  have HBr := Aside0.mk hBr
  have HB := Aside0.mk hB
  have HCEL := Aside0.mk hcells
  clear hsz hD hWB hSB hND hBr hB hcells hN hCP hlt hcv HCUT HTR hlen hlen2 hlen3
  refine wp_loop_rounds (D + 1) ?_
  refine coinr_rounds (I := fun k a_ W => k ≤ D ∧ CoinRAct s wh pa dg (.slice (some ⟨SB, 0, none⟩) D CP) N (N - k) a_ ∧ W = WB) ?step D _ _ ?init
  case init =>
    refine ⟨Nat.le_refl _, ?_, rfl⟩
    rw [HND.out, show (D : Int) - (D : Int) = 0 by omega, ← HND.out]
    exact CoinRAct.mk ..
  case step =>
    rintro n a_ W ⟨hk, hA_, hW⟩ K1 hK1
    subst hW
    rcases n with _ | m
    · rw [show N - ((0 : Nat) : Int) = N by omega] at hA_
      rcases hA_ with ⟨t1, t6, t8, t9, t10, t11, t12, t13, t14, t15, t16, t17, t18, t19, t20, t21, t22, t23, t24, t25, t26, t27, t28, t29, t30, t34, t35, t36, t37, t38, t39, t40, t41, t42, t43, t44, t45, t46, t47, t48, t49, t50, t51, t52, t53, t54, t55, t56, t57, t58, t59, t60, t61, t62, t63, t64, t65, t66, t67, t68, t69, t70, t71, t72, t73, t74, t75, t76, t77, t78, t79, t80⟩
      have hbw : Below w.heap.size w W := by rw [HWB.out]; exact below_then (pw_below_drewN (Below.refl _ _) nd) (Nat.le_refl _) (HBE.out _)
      have HBW := Aside0.mk hbw
      have HGW := Aside0.mk (HG.out.below hbw)
      clear hbw hK1
      have hne' : (dg.toList = []) = False := eq_false (by intro h; rw [h] at hne; exact absurd hne (by decide))
      have hl : (9223372036854775807 < wh.size + 2) = False := eq_false (by have := HWS.out; omega)
      have hl1 : (9223372036854775807 < wh.size + pa.size) = False := eq_false (by have := HWS.out; omega)
      by_cases h1 : 1 < dg.size
      · have hz1 := HZ.out h1
        have h1i : 1 < (dg.size : Int) := by omega
        go_wp2_with (first
          | (go_at_call 26; (with_reducible refine (coinr_PIcalls (wh ++ pa) 10 64 n none _ HPI.out).mono ?_); rintro e w3 ⟨rfl, -, hb3⟩; have HB3 := Aside0.mk (below_then HBW.out (below_size HBW.out) hb3); have HG3 := Aside0.mk (HG.out.below HB3.out); obtain ⟨tp, p, hrc⟩ := coinr_rng HG3.out; clear hb3)
          | (go_at_call 27; (with_reducible refine (coinr_is tp p _).mono ?_); rintro e w4 ⟨rfl, rfl⟩)
          | (go_at_call 9; (with_reducible refine (coin_Coin_Text.calls n s _ HG3.out HTX.out).mono ?_); rintro e w5 ⟨rfl, hb5⟩; have HB5 := Aside0.mk (below_then HB3.out (below_size HB3.out) hb5); clear hb5))
        go_ret2
        exact ⟨by simp, HB5.out⟩
      · have h1i : (1 < (dg.size : Int)) = False := eq_false (by omega)
        go_wp2_with (first
          | (go_at_call 26; (with_reducible refine (coinr_PIcalls (wh ++ pa) 10 64 n none _ HPI.out).mono ?_); rintro e w3 ⟨rfl, -, hb3⟩; have HB3 := Aside0.mk (below_then HBW.out (below_size HBW.out) hb3); have HG3 := Aside0.mk (HG.out.below HB3.out); obtain ⟨tp, p, hrc⟩ := coinr_rng HG3.out; clear hb3)
          | (go_at_call 27; (with_reducible refine (coinr_is tp p _).mono ?_); rintro e w4 ⟨rfl, rfl⟩)
          | (go_at_call 9; (with_reducible refine (coin_Coin_Text.calls n s _ HG3.out HTX.out).mono ?_); rintro e w5 ⟨rfl, hb5⟩; have HB5 := Aside0.mk (below_then HB3.out (below_size HB3.out) hb5); clear hb5))
        go_ret2
        exact ⟨by simp, HB5.out⟩
    · obtain ⟨j, hj⟩ : ∃ j : Nat, j = D - (m + 1) := ⟨_, rfl⟩
      have hjl : j < D := by omega
      have hcj := HCEL.out j hjl
      obtain ⟨hb1, hb2⟩ := HBr.out j hjl
      rw [show N - ((m + 1 : Nat) : Int) = (j : Int) by rw [HND.out]; omega] at hA_
      have hjN : (j : Int) < N := by rw [HND.out]; omega
      have hj1 : N - (m : Int) = (j : Int) + 1 := by rw [HND.out]; omega
      have HJ1 := Aside0.mk hj1
      have HJ := Aside0.mk hj
      have HK := Aside0.mk hk
      clear hj hk hj1
      have hjb : (j : Int) < 4294967296 := by have := HSZ.out; have := HDW.out; omega
      have h48 : (B j < 48) = False := eq_false (by omega)
      have h57 : (57 < B j) = False := eq_false (by omega)
      rcases hA_ with ⟨t1, t6, t8, t9, t10, t11, t12, t13, t14, t15, t16, t17, t18, t19, t20, t21, t22, t23, t24, t25, t26, t27, t28, t29, t30, t34, t35, t36, t37, t38, t39, t40, t41, t42, t43, t44, t45, t46, t47, t48, t49, t50, t51, t52, t53, t54, t55, t56, t57, t58, t59, t60, t61, t62, t63, t64, t65, t66, t67, t68, t69, t70, t71, t72, t73, t74, t75, t76, t77, t78, t79, t80⟩
      go_wp2
      refine hK1 m _ _ rfl ⟨by have := HK.out; omega, ?_, rfl⟩
      rw [HJ1.out]
      exact CoinRAct.mk ..

theorem coin_Read.calls (a0 : ByteArray) (r1 : Int) (r2 : Option Int) (w : World) (hG : Go.Proofs.YtkjofbdlholmbaaDoor.M.Laid w) (h : coin_Read.f a0 = some (r1, r2)) :
    Calls Tryd.prog 10 #[.string a0] w fun e w' => e = .returned (.tuple #[.int .i64 r1, errW r2]) ∧ Below w.heap.size w w' := by
  unfold coin_Read.f at h
  cases hn : coin_Read.num a0 with
  | none => rw [hn] at h; exact absurd h (by simp)
  | some n =>
    rw [hn] at h
    simp only [Option.bind_some] at h
    split at h
    · rename_i htx
      simp only [Option.some.injEq, Prod.mk.injEq] at h
      obtain ⟨rfl, rfl⟩ := h
      unfold coin_Read.num at hn
      split at hn
      · rename_i hc
        obtain ⟨⟨c1, c2, c3, c4, c5⟩, c6, c7, c8⟩ := hc
        generalize hcut : Go.Lib.cut a0.data.toList [46] = C at *
        obtain ⟨wl, pl, ok⟩ := C
        simp only at c2 c3 c4 c5 c6 c7 c8 hn
        subst c3
        generalize hdl : Go.Lib.trimPrefix wl [45] = dl at *
        obtain ⟨mx, hmx⟩ := hG.mx
        refine (coinr_walk a0 ⟨wl.toArray⟩ ⟨pl.toArray⟩ ⟨dl.toArray⟩ n w mx hG ?_ ?_ ?_ htx ?_ hmx c1 ?_ ?_ ?_ ?_ (fun j => ((dl ++ pl).getD j 0).toNat) ?_ ?_).mono ?_
        · cases dl with
          | nil => exact absurd rfl c6
          | cons x xs => simp [ByteArray.isEmpty]
        · intro hl
          have hc7 := c7 (by simpa [ByteArray.size] using hl)
          cases dl with
          | nil => exact absurd rfl c6
          | cons x xs =>
            intro e
            have e1 : (x.toNat : Int) = 48 := e
            exact hc7 (by simp [List.getD]; exact UInt8.toNat_inj.mp (by show x.toNat = 48; omega))
        · unfold coinr_PI
          have ed : ((⟨wl.toArray⟩ ++ ⟨pl.toArray⟩ : ByteArray)).data.toList = wl ++ pl := by simp
          have es : ((⟨wl.toArray⟩ ++ ⟨pl.toArray⟩ : ByteArray)).size ≤ 9223372036854775806 := by
            rw [ByteArray.size_append]
            have h1 : (⟨wl.toArray⟩ : ByteArray).size = wl.length := by simp [ByteArray.size]
            have h2 : (⟨pl.toArray⟩ : ByteArray).size = pl.length := by simp [ByteArray.size]
            omega
          rw [if_pos ⟨rfl, rfl, es⟩, ed]
          split at hn
          · rename_i v hv
            simp only [Option.some.injEq] at hn
            subst hn
            simp [hv]
          · exact absurd hn (by simp)
        · simpa [ByteArray.size] using c2
        · simpa using hcut
        · simpa [ByteArray.size] using c4
        · simpa using hdl
        · simpa [ByteArray.size] using c5
        · intro j; simp
        · intro j hj
          have hj' : j < (dl ++ pl).length := by
            have h1 : (⟨dl.toArray⟩ : ByteArray).size = dl.length := by simp [ByteArray.size]
            rw [List.length_append]
            omega
          have hm := c8 ((dl ++ pl).getD j 0) (by rw [show (dl ++ pl).getD j 0 = (dl ++ pl)[j] by unfold List.getD; rw [List.getElem?_eq_getElem hj']; rfl]; exact List.getElem_mem hj')
          show (48 : Int) ≤ (((dl ++ pl).getD j 0).toNat : Int) ∧ (((dl ++ pl).getD j 0).toNat : Int) ≤ 57
          omega
        · rintro e w' ⟨rfl, hb⟩
          exact ⟨by rw [errW_none], hb⟩
      · exact absurd hn (by simp)
    · exact absurd h (by simp)


/-! ### arrearslaw04_awake: function 8 -/
def arrearslaw04_awake.f  : Option (Bool) := (coin_Read.f (⟨#[45, 48, 46, 48, 53]⟩ : ByteArray)).bind fun bt109 => ((coin_Coin_Text.f (-5)).bind fun t111 => (if t111.toList = ([45, 48, 46, 48, 53] : List UInt8) then (if bt109.2.isNone = true then (some (bt109.1 == (-5))) else (some false)) else (some false)))
set_option maxHeartbeats 8000000 in
set_option maxRecDepth 100000 in
theorem arrearslaw04_awake.calls  (r : Bool) (w : World) (hG : Go.Proofs.YtkjofbdlholmbaaDoor.M.Laid w) (h : arrearslaw04_awake.f  = some r) :
    Calls Tryd.prog 8 #[] w fun e w' => e = .returned (.bool r) ∧ Below w.heap.size w w' := by
  have hu26 := Tryd.underlying26
  have HB := Aside0.mk (Below.refl w.heap.size w)
  have HG := Aside0.mk hG
  clear hG
  have H : ((coin_Read.f (⟨#[45, 48, 46, 48, 53]⟩ : ByteArray)).bind fun bt109 => ((coin_Coin_Text.f (-5)).bind fun t111 => (if t111.toList = ([45, 48, 46, 48, 53] : List UInt8) then (if bt109.2.isNone = true then (some (bt109.1 == (-5))) else (some false)) else (some false)))) = some r := h
  clear h
  replace H := Option.bind_eq_some_iff.mp H
  obtain ⟨⟨t109, t110⟩, A10, H⟩ := H
  replace H : ((coin_Coin_Text.f (-5)).bind fun t111 => (if t111.toList = ([45, 48, 46, 48, 53] : List UInt8) then (if t110.isNone = true then (some (t109 == (-5))) else (some false)) else (some false))) = some r := H
  have A1 := Aside0.mk A10
  clear A10
  replace H := Option.bind_eq_some_iff.mp H
  obtain ⟨t111, A20, H⟩ := H
  replace H : (if t111.toList = ([45, 48, 46, 48, 53] : List UInt8) then (if t110.isNone = true then (some (t109 == (-5))) else (some false)) else (some false)) = some r := H
  have A2 := Aside0.mk A20
  clear A20
  by_cases c3 : t111.toList = ([45, 48, 46, 48, 53] : List UInt8)
  · rw [if_pos c3] at H
    have c3b0 : (t111.toList == ([45, 48, 46, 48, 53] : List UInt8)) = true := beq_iff_eq.mpr c3
    have c3b1 : (t111.toList != ([45, 48, 46, 48, 53] : List UInt8)) = false := bne_eq_false_iff_eq.mpr c3
    clear c3
    rcases t110 with _ | q112
    · have H1 : (some (t109 == (-5))) = some r := by rw [if_pos (show (none : Option Int).isNone = true by rfl)] at H; exact H
      clear H
      have H := H1
      clear H1
      try simp only [errW_none, errW_some]
      obtain rfl := Option.some.inj H
      go_enter Tryd.func8, Tryd.ntmps8
      go_wp2_with (first | ((with_reducible refine gate_callee (f := 10) rfl ?_); refine goesL_ (some 4) rfl rfl Tryd.func10 (by kernel_rfl) rfl #[.string (⟨#[45, 48, 46, 48, 53]⟩ : ByteArray)] rfl (by (try simp only [List.map_toArray, List.map_cons, List.map_nil]); first | done | rfl | (simp only [List.length_drop, List.length_take]; rfl)) ?_; (with_reducible refine (coin_Read.calls (⟨#[45, 48, 46, 48, 53]⟩ : ByteArray) t109 none _ ?hGL A1.out).mono ?_); (case hGL => exact Go.Proofs.YtkjofbdlholmbaaDoor.M.Laid.below HG.out (by repeat (first | (with_reducible first | exact HB.out | apply below_alloc | apply pw_below_drewN | apply below_drew1) | exact HB.out))); rintro e w4 ⟨rfl, hb⟩; refine ⟨_, rfl, ?_⟩; have n0_ := Aside0.mk (below_step (by repeat (first | (with_reducible first | exact HB.out | apply below_alloc | apply pw_below_drewN | apply below_drew1) | exact HB.out)) hb); clear HB; have HB := n0_; clear n0_; (try clear hb); (try clear hb2); (try clear hk); (try clear hi); (try simp only [errW_none, errW_some])) | ((with_reducible refine gate_callee (f := 9) rfl ?_); refine goesL_ (some 7) rfl rfl Tryd.func9 (by kernel_rfl) rfl #[.int .i64 (-5)] rfl (by (try simp only [List.map_toArray, List.map_cons, List.map_nil]); first | done | rfl | (simp only [List.length_drop, List.length_take]; rfl)) ?_; (with_reducible refine (coin_Coin_Text.calls (-5) t111 _ ?hGL A2.out).mono ?_); (case hGL => exact Go.Proofs.YtkjofbdlholmbaaDoor.M.Laid.below HG.out (by repeat (first | (with_reducible first | exact HB.out | apply below_alloc | apply pw_below_drewN | apply below_drew1) | exact HB.out))); rintro e w5 ⟨rfl, hb⟩; refine ⟨_, rfl, ?_⟩; have n0_ := Aside0.mk (below_step (by repeat (first | (with_reducible first | exact HB.out | apply below_alloc | apply pw_below_drewN | apply below_drew1) | exact HB.out)) hb); clear HB; have HB := n0_; clear n0_; (try clear hb); (try clear hb2); (try clear hk); (try clear hi)))
      go_ret
      exact ⟨by first | rfl | (simp [errW_none, errW_some] <;> rfl) | (simp [*, errW_none, errW_some] <;> rfl), by repeat (first | (with_reducible first | exact HB.out | apply below_alloc | apply pw_below_drewN | apply below_drew1) | exact HB.out)⟩
    · have H1 : (some false) = some r := by rw [if_neg (show ¬ (some q112).isNone = true by simp)] at H; exact H
      clear H
      have H := H1
      clear H1
      try simp only [errW_none, errW_some]
      obtain rfl := Option.some.inj H
      go_enter Tryd.func8, Tryd.ntmps8
      go_wp2_with (first | ((with_reducible refine gate_callee (f := 10) rfl ?_); refine goesL_ (some 4) rfl rfl Tryd.func10 (by kernel_rfl) rfl #[.string (⟨#[45, 48, 46, 48, 53]⟩ : ByteArray)] rfl (by (try simp only [List.map_toArray, List.map_cons, List.map_nil]); first | done | rfl | (simp only [List.length_drop, List.length_take]; rfl)) ?_; (with_reducible refine (coin_Read.calls (⟨#[45, 48, 46, 48, 53]⟩ : ByteArray) t109 (some q112) _ ?hGL A1.out).mono ?_); (case hGL => exact Go.Proofs.YtkjofbdlholmbaaDoor.M.Laid.below HG.out (by repeat (first | (with_reducible first | exact HB.out | apply below_alloc | apply pw_below_drewN | apply below_drew1) | exact HB.out))); rintro e w6 ⟨rfl, hb⟩; refine ⟨_, rfl, ?_⟩; have n0_ := Aside0.mk (below_step (by repeat (first | (with_reducible first | exact HB.out | apply below_alloc | apply pw_below_drewN | apply below_drew1) | exact HB.out)) hb); clear HB; have HB := n0_; clear n0_; (try clear hb); (try clear hb2); (try clear hk); (try clear hi); (try simp only [errW_none, errW_some])) | ((with_reducible refine gate_callee (f := 9) rfl ?_); refine goesL_ (some 7) rfl rfl Tryd.func9 (by kernel_rfl) rfl #[.int .i64 (-5)] rfl (by (try simp only [List.map_toArray, List.map_cons, List.map_nil]); first | done | rfl | (simp only [List.length_drop, List.length_take]; rfl)) ?_; (with_reducible refine (coin_Coin_Text.calls (-5) t111 _ ?hGL A2.out).mono ?_); (case hGL => exact Go.Proofs.YtkjofbdlholmbaaDoor.M.Laid.below HG.out (by repeat (first | (with_reducible first | exact HB.out | apply below_alloc | apply pw_below_drewN | apply below_drew1) | exact HB.out))); rintro e w7 ⟨rfl, hb⟩; refine ⟨_, rfl, ?_⟩; have n0_ := Aside0.mk (below_step (by repeat (first | (with_reducible first | exact HB.out | apply below_alloc | apply pw_below_drewN | apply below_drew1) | exact HB.out)) hb); clear HB; have HB := n0_; clear n0_; (try clear hb); (try clear hb2); (try clear hk); (try clear hi)))
      go_ret
      exact ⟨by first | rfl | (simp [errW_none, errW_some] <;> rfl) | (simp [*, errW_none, errW_some] <;> rfl), by repeat (first | (with_reducible first | exact HB.out | apply below_alloc | apply pw_below_drewN | apply below_drew1) | exact HB.out)⟩
  · rw [if_neg c3] at H
    have c3b0 : (t111.toList == ([45, 48, 46, 48, 53] : List UInt8)) = false := beq_eq_false_iff_ne.mpr c3
    have c3b1 : (t111.toList != ([45, 48, 46, 48, 53] : List UInt8)) = true := bne_iff_ne.mpr c3
    obtain rfl := Option.some.inj H
    go_enter Tryd.func8, Tryd.ntmps8
    go_wp2_with (first | ((with_reducible refine gate_callee (f := 10) rfl ?_); refine goesL_ (some 4) rfl rfl Tryd.func10 (by kernel_rfl) rfl #[.string (⟨#[45, 48, 46, 48, 53]⟩ : ByteArray)] rfl (by (try simp only [List.map_toArray, List.map_cons, List.map_nil]); first | done | rfl | (simp only [List.length_drop, List.length_take]; rfl)) ?_; (with_reducible refine (coin_Read.calls (⟨#[45, 48, 46, 48, 53]⟩ : ByteArray) t109 t110 _ ?hGL A1.out).mono ?_); (case hGL => exact Go.Proofs.YtkjofbdlholmbaaDoor.M.Laid.below HG.out (by repeat (first | (with_reducible first | exact HB.out | apply below_alloc | apply pw_below_drewN | apply below_drew1) | exact HB.out))); rintro e w8 ⟨rfl, hb⟩; refine ⟨_, rfl, ?_⟩; have n0_ := Aside0.mk (below_step (by repeat (first | (with_reducible first | exact HB.out | apply below_alloc | apply pw_below_drewN | apply below_drew1) | exact HB.out)) hb); clear HB; have HB := n0_; clear n0_; (try clear hb); (try clear hb2); (try clear hk); (try clear hi); (try simp only [errW_none, errW_some])) | ((with_reducible refine gate_callee (f := 9) rfl ?_); refine goesL_ (some 7) rfl rfl Tryd.func9 (by kernel_rfl) rfl #[.int .i64 (-5)] rfl (by (try simp only [List.map_toArray, List.map_cons, List.map_nil]); first | done | rfl | (simp only [List.length_drop, List.length_take]; rfl)) ?_; (with_reducible refine (coin_Coin_Text.calls (-5) t111 _ ?hGL A2.out).mono ?_); (case hGL => exact Go.Proofs.YtkjofbdlholmbaaDoor.M.Laid.below HG.out (by repeat (first | (with_reducible first | exact HB.out | apply below_alloc | apply pw_below_drewN | apply below_drew1) | exact HB.out))); rintro e w9 ⟨rfl, hb⟩; refine ⟨_, rfl, ?_⟩; have n0_ := Aside0.mk (below_step (by repeat (first | (with_reducible first | exact HB.out | apply below_alloc | apply pw_below_drewN | apply below_drew1) | exact HB.out)) hb); clear HB; have HB := n0_; clear n0_; (try clear hb); (try clear hb2); (try clear hk); (try clear hi)))
    go_ret
    exact ⟨by first | rfl | (simp [errW_none, errW_some] <;> rfl) | (simp [*, errW_none, errW_some] <;> rfl), by repeat (first | (with_reducible first | exact HB.out | apply below_alloc | apply pw_below_drewN | apply below_drew1) | exact HB.out)⟩

/-! ### api_Code: function 17 -/
open Go.Proofs.YtkjofbdlholmbaaDoor.M (Laid Laid.below Laid.et as_hit)
def api_Code.f (a0 : Option Int) : Option Int := some (a0.getD 0)
set_option maxHeartbeats 8000000 in
theorem api_Code.calls (a0 : Option Int) (r : Int) (w : World) (hG : Laid w) (h : api_Code.f a0 = some r) :
    Calls Tryd.prog 17 #[errW a0] w fun e w' => e = .returned (.int .i64 r) ∧ Below w.heap.size w w' := by
  unfold api_Code.f at h
  obtain rfl := Option.some.inj h
  cases a0 with
  | none =>
    go_enter Tryd.func17, Tryd.ntmps17
    simp only [errW_none]
    go_wp2
    go_ret
    exact ⟨rfl, Below.refl _ _⟩
  | some c =>
    have hw : Laid (w.alloc (.cells #[.int .i64 0] 37)) := Laid.below hG (below_alloc (Below.refl _ _) _)
    have hit := as_hit c ⟨w.heap.size, 0, none⟩ (.int .i64 0) (w.alloc (.cells #[.int .i64 0] 37)) hw.et (by simp) (by simp)
    have HIT := Aside0.mk hit
    clear hit hw hG
    go_enter Tryd.func17, Tryd.ntmps17
    simp only [errW_some]
    go_wp2_with (go_at_call 29; refine HIT.out.mono ?_; rintro e w' ⟨rfl, rfl⟩)
    go_ret
    exact ⟨rfl, by repeat (first | exact Below.refl _ _ | apply below_alloc | apply pw_below_drewN | apply below_drew1 | (refine below_set ?_ (Nat.le_refl _)))⟩


/-! ### coin_Coin_Add: function 12 -/
def coin_Coin_Add.f (a0 : Int) (a1 : Int) : Option (Int × Option Int) := if a1 > 0 then (if (wrap64 (a0 + a1)) < a0 then (some (0, some 12)) else (if a1 < 0 then (if (wrap64 (a0 + a1)) > a0 then (some (0, some 12)) else (some (wrap64 (a0 + a1), none))) else (some (wrap64 (a0 + a1), none)))) else (if a1 < 0 then (if (wrap64 (a0 + a1)) > a0 then (some (0, some 12)) else (some (wrap64 (a0 + a1), none))) else (some (wrap64 (a0 + a1), none)))
set_option maxHeartbeats 8000000 in
set_option maxRecDepth 100000 in
theorem coin_Coin_Add.calls (a0 : Int) (a1 : Int) (r1 : Int) (r2 : Option Int) (w : World) (h : coin_Coin_Add.f a0 a1 = some (r1, r2)) :
    Calls Tryd.prog 12 #[.int .i64 a0, .int .i64 a1] w fun e w' => e = .returned (.tuple #[.int .i64 r1, errW r2]) ∧ Drawn0 w w' := by
  have hu26 := Tryd.underlying26
  have hu37 := Tryd.underlying37
  have H : (if a1 > 0 then (if (wrap64 (a0 + a1)) < a0 then (some (0, some 12)) else (if a1 < 0 then (if (wrap64 (a0 + a1)) > a0 then (some (0, some 12)) else (some (wrap64 (a0 + a1), none))) else (some (wrap64 (a0 + a1), none)))) else (if a1 < 0 then (if (wrap64 (a0 + a1)) > a0 then (some (0, some 12)) else (some (wrap64 (a0 + a1), none))) else (some (wrap64 (a0 + a1), none)))) = some (r1, r2) := h
  clear h
  by_cases c3 : a1 > 0
  · rw [if_pos c3] at H
    have c3b0 : decide (0 < a1) = true := decide_eq_true c3
    clear c3
    by_cases c4 : (wrap64 (a0 + a1)) < a0
    · rw [if_pos c4] at H
      have c4b0 : decide ((wrap64 (a0 + a1)) < a0) = true := decide_eq_true c4
      clear c4
      simp only [Option.some.injEq, Prod.mk.injEq] at H
      obtain ⟨rfl, rfl⟩ := H
      go_enter Tryd.func12, Tryd.ntmps12
      go_wp2
      go_ret2
      exact ⟨by first | rfl | (simp; done) | (simp [*]; done), by repeat (first | exact Drawn0.refl _ | apply Drawn0.step)⟩
    · rw [if_neg c4] at H
      have c4b0 : decide ((wrap64 (a0 + a1)) < a0) = false := decide_eq_false c4
      clear c4
      by_cases c5 : a1 < 0
      · rw [if_pos c5] at H
        have c5b0 : decide (a1 < 0) = true := decide_eq_true c5
        clear c5
        by_cases c6 : (wrap64 (a0 + a1)) > a0
        · rw [if_pos c6] at H
          have c6b0 : decide (a0 < (wrap64 (a0 + a1))) = true := decide_eq_true c6
          clear c6
          simp only [Option.some.injEq, Prod.mk.injEq] at H
          obtain ⟨rfl, rfl⟩ := H
          go_enter Tryd.func12, Tryd.ntmps12
          go_wp2
          go_ret2
          exact ⟨by first | rfl | (simp; done) | (simp [*]; done), by repeat (first | exact Drawn0.refl _ | apply Drawn0.step)⟩
        · rw [if_neg c6] at H
          have c6b0 : decide (a0 < (wrap64 (a0 + a1))) = false := decide_eq_false c6
          clear c6
          simp only [Option.some.injEq, Prod.mk.injEq] at H
          obtain ⟨rfl, rfl⟩ := H
          go_enter Tryd.func12, Tryd.ntmps12
          go_wp2
          go_ret2
          exact ⟨by first | rfl | (simp; done) | (simp [*]; done), by repeat (first | exact Drawn0.refl _ | apply Drawn0.step)⟩
      · rw [if_neg c5] at H
        have c5b0 : decide (a1 < 0) = false := decide_eq_false c5
        clear c5
        simp only [Option.some.injEq, Prod.mk.injEq] at H
        obtain ⟨rfl, rfl⟩ := H
        go_enter Tryd.func12, Tryd.ntmps12
        go_wp2
        go_ret2
        exact ⟨by first | rfl | (simp; done) | (simp [*]; done), by repeat (first | exact Drawn0.refl _ | apply Drawn0.step)⟩
  · rw [if_neg c3] at H
    have c3b0 : decide (0 < a1) = false := decide_eq_false c3
    clear c3
    by_cases c7 : a1 < 0
    · rw [if_pos c7] at H
      have c7b0 : decide (a1 < 0) = true := decide_eq_true c7
      clear c7
      by_cases c8 : (wrap64 (a0 + a1)) > a0
      · rw [if_pos c8] at H
        have c8b0 : decide (a0 < (wrap64 (a0 + a1))) = true := decide_eq_true c8
        clear c8
        simp only [Option.some.injEq, Prod.mk.injEq] at H
        obtain ⟨rfl, rfl⟩ := H
        go_enter Tryd.func12, Tryd.ntmps12
        go_wp2
        go_ret2
        exact ⟨by first | rfl | (simp; done) | (simp [*]; done), by repeat (first | exact Drawn0.refl _ | apply Drawn0.step)⟩
      · rw [if_neg c8] at H
        have c8b0 : decide (a0 < (wrap64 (a0 + a1))) = false := decide_eq_false c8
        clear c8
        simp only [Option.some.injEq, Prod.mk.injEq] at H
        obtain ⟨rfl, rfl⟩ := H
        go_enter Tryd.func12, Tryd.ntmps12
        go_wp2
        go_ret2
        exact ⟨by first | rfl | (simp; done) | (simp [*]; done), by repeat (first | exact Drawn0.refl _ | apply Drawn0.step)⟩
    · rw [if_neg c7] at H
      have c7b0 : decide (a1 < 0) = false := decide_eq_false c7
      clear c7
      simp only [Option.some.injEq, Prod.mk.injEq] at H
      obtain ⟨rfl, rfl⟩ := H
      go_enter Tryd.func12, Tryd.ntmps12
      go_wp2
      go_ret2
      exact ⟨by first | rfl | (simp; done) | (simp [*]; done), by repeat (first | exact Drawn0.refl _ | apply Drawn0.step)⟩

/-! ### coin_Sum: function 18 -/
def coin_Sum.l0 : Nat → Int → List Int → Int → Int → Option (Int × Option Int)
  | 0, _, _, _, _ => none
  | k + 1, x4, x8, x9, x10 => if x10 < x9 then (if 0 ≤ x10 then (if x10 < (x8.length : Int) then ((coin_Coin_Add.f x4 (rd x8 x10)).bind fun bt114 => (if bt114.2.isNone = true then (coin_Sum.l0 k bt114.1 x8 x9 (wrap64 (x10 + 1))) else (some (0, some (bt114.2.getD 0))))) else (none)) else (none)) else (some (x4, none))
def coin_Sum.f (k : Nat) (l0 : List Int) : Option (Int × Option Int) := coin_Sum.l0 k 0 l0 (l0.length : Int) 0
theorem coin_Sum.mono_l : ∀ k, (∀ y0 y1 y2 y3, LeO (coin_Sum.l0 k y0 y1 y2 y3) (coin_Sum.l0 (k + 1) y0 y1 y2 y3))
  | 0 => fun _ _ _ _ r h => by simp [coin_Sum.l0] at h
  | k + 1 => by
    have ih0 := coin_Sum.mono_l k
    · intro y0 y1 y2 y3
      unfold coin_Sum.l0
      repeat' first
      | (with_reducible exact ih0 _ _ _ _)
      | (with_reducible exact LeO.refl _)
      | (with_reducible exact LeO.none _)
      | (with_reducible refine LeO.ite ?_ ?_)
      | (with_reducible refine LeO.bind ?_ (fun _ => ?_))
      | exact ih0 _ _ _ _
      | exact LeO.none _
      | refine LeO.ite ?_ ?_
      | refine LeO.bind ?_ (fun _ => ?_)
theorem coin_Sum.mono : ∀ a0 k, LeO (coin_Sum.f k a0) (coin_Sum.f (k + 1) a0) := by
  intro a0 k
  have ih0 := coin_Sum.mono_l k
  unfold coin_Sum.f
  repeat' first
      | (with_reducible exact ih0 _ _ _ _)
      | (with_reducible exact LeO.refl _)
      | (with_reducible exact LeO.none _)
      | (with_reducible refine LeO.ite ?_ ?_)
      | (with_reducible refine LeO.bind ?_ (fun _ => ?_))
      | exact ih0 _ _ _ _
      | exact LeO.none _
      | refine LeO.ite ?_ ?_
      | refine LeO.bind ?_ (fun _ => ?_)
set_option maxHeartbeats 8000000 in
set_option maxRecDepth 100000 in
theorem coin_Sum.calls (k : Nat) (A0 : Option Addr) (c0 : Nat) (l0 : List Int) (r1 : Int) (r2 : Option Int) (w : World) (hr0 : Kd.C (Kd.int .i64) w A0 l0.length l0) (hc0 : l0.length ≤ c0) (h : coin_Sum.f k l0 = some (r1, r2)) :
    Calls Tryd.prog 18 #[.slice A0 l0.length c0] w fun e w' => e = .returned (.tuple #[.int .i64 r1, errW r2]) ∧ Drawn0 w w' := by
  have hu26 := Tryd.underlying26
  have hu37 := Tryd.underlying37
  have HR0 := Aside0.mk hr0
  have HC0 := Aside0.mk hc0
  clear hr0 hc0
  have H : (coin_Sum.l0 k 0 l0 (l0.length : Int) 0) = some (r1, r2) := h
  clear h
  have H' := Aside0.mk H
  clear H
  go_enter Tryd.func18, Tryd.ntmps18
  go_wp2
  go_loopg [4, 10] k (fun kq v4 v10 w' => ∃ (x4_1 : Int) (x10_1 : Int), v4 = .int .i64 x4_1 ∧ v10 = .int .i64 x10_1 ∧ Aside0 (coin_Sum.l0 kq x4_1 l0 (l0.length : Int) x10_1 = some (r1, r2)) ∧ Aside0 (kq ≤ k) ∧ Drawn0 w w')
  case atStart => exact ⟨(0), (0), (by first | rfl | (simp; done) | (simp [*]; done)), (by first | rfl | (simp; done) | (simp [*]; done)), H', ⟨Nat.le_refl _⟩, by repeat (first | exact Drawn0.refl _ | apply Drawn0.step)⟩
  case round =>
    clear H'
    try clear c1
    obtain ⟨x4_1, x10_1, rfl, rfl, HA, HK1, ⟨m1, rfl⟩⟩ := hrel
    cases gk with
    | zero => exact absurd HA.out (by simp [coin_Sum.l0])
    | succ k1 =>
      have H := HA.out
      clear HA
      simp only [coin_Sum.l0] at H
      by_cases c2 : x10_1 < (l0.length : Int)
      · rw [if_pos c2] at H
        have c2b0 : decide (x10_1 < (l0.length : Int)) = true := decide_eq_true c2
        clear c2
        by_cases c3 : 0 ≤ x10_1
        · rw [if_pos c3] at H
          have c3b0 : decide (0 ≤ x10_1) = true := decide_eq_true c3
          clear c3
          by_cases c4 : x10_1 < (l0.length : Int)
          · rw [if_pos c4] at H
            have c4b0 : decide (x10_1 < (l0.length : Int)) = true := decide_eq_true c4
            clear c4
            replace H := Option.bind_eq_some_iff.mp H
            obtain ⟨⟨t114, t115⟩, A50, H⟩ := H
            replace H : (if t115.isNone = true then (coin_Sum.l0 k1 t114 l0 (l0.length : Int) (wrap64 (x10_1 + 1))) else (some (0, some (t115.getD 0)))) = some (r1, r2) := H
            have A5 := Aside0.mk A50
            clear A50
            rcases t115 with _ | q116
            · have H1 : (coin_Sum.l0 k1 t114 l0 (l0.length : Int) (wrap64 (x10_1 + 1))) = some (r1, r2) := by rw [if_pos (show (none : Option Int).isNone = true by rfl)] at H; exact H
              clear H
              have H := H1
              clear H1
              try simp only [errW_none, errW_some]
              have H' := Aside0.mk H
              clear H
              have p113 : 0 ≤ (x10_1 : Int) := of_decide_eq_true (by first | (with_reducible assumption) | assumption)
              have q113 : x10_1 < (l0.length : Int) := of_decide_eq_true (by first | (with_reducible assumption) | assumption)
              obtain ⟨ad113, e113, hx113_0⟩ := Kd.at_int HR0.out x10_1 p113 q113
              cases e113
              replace p113 := eq_true p113
              replace q113 := eq_true q113
              go_wp2_with (first | ((with_reducible refine gate_callee (f := 12) rfl ?_); refine goesL_ (some 17) rfl rfl Tryd.func12 (by kernel_rfl) rfl #[.int .i64 x4_1, .int .i64 (rd l0 x10_1)] rfl (by (try simp only [List.map_toArray, List.map_cons, List.map_nil]); first | done | rfl | (simp only [List.length_drop, List.length_take]; rfl)) ?_; (with_reducible refine (coin_Coin_Add.calls x4_1 (rd l0 x10_1) t114 none _ A5.out).mono ?_); rintro e w' ⟨rfl, ⟨nd, rfl⟩⟩; refine ⟨_, rfl, ?_⟩; (try simp only [errW_none, errW_some])))
              go_roundg k1
              case measure => have := HK1.out; omega
              case rel => exact ⟨(t114), (wrap64 (x10_1 + 1)), (by first | rfl | (simp; done) | (simp [*]; done)), (by first | rfl | (simp; done) | (simp [*]; done)), H', ⟨by have := HK1.out; omega⟩, by repeat (first | exact Drawn0.refl _ | apply Drawn0.step)⟩
            · have H1 : (some (0, some q116)) = some (r1, r2) := by rw [if_neg (show ¬ (some q116).isNone = true by simp)] at H; exact H
              clear H
              have H := H1
              clear H1
              try simp only [errW_none, errW_some]
              simp only [Option.some.injEq, Prod.mk.injEq] at H
              obtain ⟨rfl, rfl⟩ := H
              have p113 : 0 ≤ (x10_1 : Int) := of_decide_eq_true (by first | (with_reducible assumption) | assumption)
              have q113 : x10_1 < (l0.length : Int) := of_decide_eq_true (by first | (with_reducible assumption) | assumption)
              obtain ⟨ad113, e113, hx113_0⟩ := Kd.at_int HR0.out x10_1 p113 q113
              cases e113
              replace p113 := eq_true p113
              replace q113 := eq_true q113
              go_wp2_with (first | ((with_reducible refine gate_callee (f := 12) rfl ?_); refine goesL_ (some 17) rfl rfl Tryd.func12 (by kernel_rfl) rfl #[.int .i64 x4_1, .int .i64 (rd l0 x10_1)] rfl (by (try simp only [List.map_toArray, List.map_cons, List.map_nil]); first | done | rfl | (simp only [List.length_drop, List.length_take]; rfl)) ?_; (with_reducible refine (coin_Coin_Add.calls x4_1 (rd l0 x10_1) t114 (some q116) _ A5.out).mono ?_); rintro e w' ⟨rfl, ⟨nd, rfl⟩⟩; refine ⟨_, rfl, ?_⟩; (try simp only [errW_none, errW_some])))
              go_ret2
              exact ⟨by first | rfl | (simp; done) | (simp [*]; done), by repeat (first | exact Drawn0.refl _ | apply Drawn0.step)⟩
          · first | exact absurd c2 c4 | exact absurd (beq_iff_eq.mp c2b0) c4 | exact absurd (of_decide_eq_true (by assumption)) c4 | exact absurd (by assumption) c4
        · rw [if_neg c3] at H
          exact absurd H (by simp)
      · rw [if_neg c2] at H
        have c2b0 : decide (x10_1 < (l0.length : Int)) = false := decide_eq_false c2
        clear c2
        simp only [Option.some.injEq, Prod.mk.injEq] at H
        obtain ⟨rfl, rfl⟩ := H
        go_wp2
        go_ret2
        exact ⟨by first | rfl | (simp; done) | (simp [*]; done), by repeat (first | exact Drawn0.refl _ | apply Drawn0.step)⟩

/-! ### arrearsref04_Add: function 19 -/
def arrearsref04_Add.f (a0 : Int) (a1 : Int) : Option (Int × Bool) := if a1 > 0 then (if a0 > (wrap64 (9223372036854775807 - a1)) then (some (0, false)) else (if a1 < 0 then (if a0 < (wrap64 ((-9223372036854775808) - a1)) then (some (0, false)) else (some (wrap64 (a0 + a1), true))) else (some (wrap64 (a0 + a1), true)))) else (if a1 < 0 then (if a0 < (wrap64 ((-9223372036854775808) - a1)) then (some (0, false)) else (some (wrap64 (a0 + a1), true))) else (some (wrap64 (a0 + a1), true)))
set_option maxHeartbeats 8000000 in
set_option maxRecDepth 100000 in
theorem arrearsref04_Add.calls (a0 : Int) (a1 : Int) (r1 : Int) (r2 : Bool) (w : World) (h : arrearsref04_Add.f a0 a1 = some (r1, r2)) :
    Calls Tryd.prog 19 #[.int .i64 a0, .int .i64 a1] w fun e w' => e = .returned (.tuple #[.int .i64 r1, .bool r2]) ∧ Drawn0 w w' := by
  have H : (if a1 > 0 then (if a0 > (wrap64 (9223372036854775807 - a1)) then (some (0, false)) else (if a1 < 0 then (if a0 < (wrap64 ((-9223372036854775808) - a1)) then (some (0, false)) else (some (wrap64 (a0 + a1), true))) else (some (wrap64 (a0 + a1), true)))) else (if a1 < 0 then (if a0 < (wrap64 ((-9223372036854775808) - a1)) then (some (0, false)) else (some (wrap64 (a0 + a1), true))) else (some (wrap64 (a0 + a1), true)))) = some (r1, r2) := h
  clear h
  by_cases c3 : a1 > 0
  · rw [if_pos c3] at H
    have c3b0 : decide (0 < a1) = true := decide_eq_true c3
    clear c3
    by_cases c4 : a0 > (wrap64 (9223372036854775807 - a1))
    · rw [if_pos c4] at H
      have c4b0 : decide ((wrap64 (9223372036854775807 - a1)) < a0) = true := decide_eq_true c4
      clear c4
      simp only [Option.some.injEq, Prod.mk.injEq] at H
      obtain ⟨rfl, rfl⟩ := H
      go_enter Tryd.func19, Tryd.ntmps19
      go_wp2
      go_ret2
      exact ⟨by first | rfl | (simp; done) | (simp [*]; done), by repeat (first | exact Drawn0.refl _ | apply Drawn0.step)⟩
    · rw [if_neg c4] at H
      have c4b0 : decide ((wrap64 (9223372036854775807 - a1)) < a0) = false := decide_eq_false c4
      clear c4
      by_cases c5 : a1 < 0
      · rw [if_pos c5] at H
        have c5b0 : decide (a1 < 0) = true := decide_eq_true c5
        clear c5
        by_cases c6 : a0 < (wrap64 ((-9223372036854775808) - a1))
        · rw [if_pos c6] at H
          have c6b0 : decide (a0 < (wrap64 ((-9223372036854775808) - a1))) = true := decide_eq_true c6
          clear c6
          simp only [Option.some.injEq, Prod.mk.injEq] at H
          obtain ⟨rfl, rfl⟩ := H
          go_enter Tryd.func19, Tryd.ntmps19
          go_wp2
          go_ret2
          exact ⟨by first | rfl | (simp; done) | (simp [*]; done), by repeat (first | exact Drawn0.refl _ | apply Drawn0.step)⟩
        · rw [if_neg c6] at H
          have c6b0 : decide (a0 < (wrap64 ((-9223372036854775808) - a1))) = false := decide_eq_false c6
          clear c6
          simp only [Option.some.injEq, Prod.mk.injEq] at H
          obtain ⟨rfl, rfl⟩ := H
          go_enter Tryd.func19, Tryd.ntmps19
          go_wp2
          go_ret2
          exact ⟨by first | rfl | (simp; done) | (simp [*]; done), by repeat (first | exact Drawn0.refl _ | apply Drawn0.step)⟩
      · rw [if_neg c5] at H
        have c5b0 : decide (a1 < 0) = false := decide_eq_false c5
        clear c5
        simp only [Option.some.injEq, Prod.mk.injEq] at H
        obtain ⟨rfl, rfl⟩ := H
        go_enter Tryd.func19, Tryd.ntmps19
        go_wp2
        go_ret2
        exact ⟨by first | rfl | (simp; done) | (simp [*]; done), by repeat (first | exact Drawn0.refl _ | apply Drawn0.step)⟩
  · rw [if_neg c3] at H
    have c3b0 : decide (0 < a1) = false := decide_eq_false c3
    clear c3
    by_cases c7 : a1 < 0
    · rw [if_pos c7] at H
      have c7b0 : decide (a1 < 0) = true := decide_eq_true c7
      clear c7
      by_cases c8 : a0 < (wrap64 ((-9223372036854775808) - a1))
      · rw [if_pos c8] at H
        have c8b0 : decide (a0 < (wrap64 ((-9223372036854775808) - a1))) = true := decide_eq_true c8
        clear c8
        simp only [Option.some.injEq, Prod.mk.injEq] at H
        obtain ⟨rfl, rfl⟩ := H
        go_enter Tryd.func19, Tryd.ntmps19
        go_wp2
        go_ret2
        exact ⟨by first | rfl | (simp; done) | (simp [*]; done), by repeat (first | exact Drawn0.refl _ | apply Drawn0.step)⟩
      · rw [if_neg c8] at H
        have c8b0 : decide (a0 < (wrap64 ((-9223372036854775808) - a1))) = false := decide_eq_false c8
        clear c8
        simp only [Option.some.injEq, Prod.mk.injEq] at H
        obtain ⟨rfl, rfl⟩ := H
        go_enter Tryd.func19, Tryd.ntmps19
        go_wp2
        go_ret2
        exact ⟨by first | rfl | (simp; done) | (simp [*]; done), by repeat (first | exact Drawn0.refl _ | apply Drawn0.step)⟩
    · rw [if_neg c7] at H
      have c7b0 : decide (a1 < 0) = false := decide_eq_false c7
      clear c7
      simp only [Option.some.injEq, Prod.mk.injEq] at H
      obtain ⟨rfl, rfl⟩ := H
      go_enter Tryd.func19, Tryd.ntmps19
      go_wp2
      go_ret2
      exact ⟨by first | rfl | (simp; done) | (simp [*]; done), by repeat (first | exact Drawn0.refl _ | apply Drawn0.step)⟩

end Go.Proofs.YtkjofbdlholmbaaDoor.PCoinSums
