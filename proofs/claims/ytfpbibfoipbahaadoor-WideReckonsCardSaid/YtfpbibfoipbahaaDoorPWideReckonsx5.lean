-- Printed by a wrapper of this session's round the kit's print.py; Lean checks it.
import Derived.Test.YtfpbibfoipbahaaDoorPWideReckonsx0
namespace Go.Proofs.YtfpbibfoipbahaaDoor.PWideReckons
open Go.RowKit Go.Proofs.YtfpbibfoipbahaaDoorW.PrintWords Go.Proofs.YtfpbibfoipbahaaDoorW.PrintLast Go.Proofs.YtfpbibfoipbahaaDoorW.PrintMore
attribute [local go_sem] max2_int min2_int max_two min_two max_three min_three max_four min_four   -- for this text's walks alone
set_option linter.unusedVariables false
set_option linter.unusedSimpArgs false

/-! ### arrearsref03_Less: function 23 -/
def arrearsref03_Less.f (a0_0 : Int) (a0_1 : Int) (a0_2 : Int) (a0_3 : Int) (a0_4 : Int) (a0_5 : Int) (a0_6 : Int) (a0_7 : Int) (a1_0 : Int) (a1_1 : Int) (a1_2 : Int) (a1_3 : Int) (a1_4 : Int) (a1_5 : Int) (a1_6 : Int) (a1_7 : Int) : Option (Bool) := if a0_7 = a1_7 then (if a0_6 = a1_6 then (if a0_5 = a1_5 then (if a0_4 = a1_4 then (if a0_3 = a1_3 then (if a0_2 = a1_2 then (if a0_1 = a1_1 then (if a0_0 = a1_0 then (some false) else some (decide (a0_0 < a1_0))) else some (decide (a0_1 < a1_1))) else some (decide (a0_2 < a1_2))) else some (decide (a0_3 < a1_3))) else some (decide (a0_4 < a1_4))) else some (decide (a0_5 < a1_5))) else some (decide (a0_6 < a1_6))) else some (decide (a0_7 < a1_7))
set_option maxHeartbeats 8000000 in
theorem arrearsref03_Less.calls (a0_0 : Int) (a0_1 : Int) (a0_2 : Int) (a0_3 : Int) (a0_4 : Int) (a0_5 : Int) (a0_6 : Int) (a0_7 : Int) (a1_0 : Int) (a1_1 : Int) (a1_2 : Int) (a1_3 : Int) (a1_4 : Int) (a1_5 : Int) (a1_6 : Int) (a1_7 : Int) (r : Bool) (w : World) (h : arrearsref03_Less.f a0_0 a0_1 a0_2 a0_3 a0_4 a0_5 a0_6 a0_7 a1_0 a1_1 a1_2 a1_3 a1_4 a1_5 a1_6 a1_7 = some r) :
    Calls Tryd.prog 23 #[.agg #[.int .u32 a0_0, .int .u32 a0_1, .int .u32 a0_2, .int .u32 a0_3, .int .u32 a0_4, .int .u32 a0_5, .int .u32 a0_6, .int .u32 a0_7], .agg #[.int .u32 a1_0, .int .u32 a1_1, .int .u32 a1_2, .int .u32 a1_3, .int .u32 a1_4, .int .u32 a1_5, .int .u32 a1_6, .int .u32 a1_7]] w fun e w' => e = .returned (.bool r) ∧ Below w.heap.size w w' := by
  unfold arrearsref03_Less.f at h
  go_enter Tryd.func23, Tryd.ntmps23
  go_wp2_with (first | ((with_reducible refine gate_dst (N := 2) rfl ?_); (try (refine gate_guard (by rfl) ?_; dsimp only)); refine box_event ?hg (N := 2) ?hd (cs := #[.int .u32 a0_0, .int .u32 a0_1, .int .u32 a0_2, .int .u32 a0_3, .int .u32 a0_4, .int .u32 a0_5, .int .u32 a0_6, .int .u32 a0_7]) (t := 46) ?hr ?_; (case hd => rfl); (case hg => rfl); (case hr => first | (go_simp; done) | (go_simp; rfl)); intro gb2 hg w2 hbox hb; have BK2 := Aside0.mk hbox; have HB := Aside0.mk hb; clear hbox hb hg) | ((with_reducible refine gate_dst (N := 3) rfl ?_); (try (refine gate_guard (by rfl) ?_; dsimp only)); refine box_event ?hg (N := 3) ?hd (cs := #[.int .u32 a1_0, .int .u32 a1_1, .int .u32 a1_2, .int .u32 a1_3, .int .u32 a1_4, .int .u32 a1_5, .int .u32 a1_6, .int .u32 a1_7]) (t := 46) ?hr ?_; (case hd => rfl); (case hg => rfl); (case hr => first | (go_simp; done) | (go_simp; rfl)); intro gb3 hg w3 hbox hb; have n0_ := Aside0.mk (blk_below BK2.out hb); have n1_ := Aside0.mk (below_step HB.out hb); have BK3 := Aside0.mk hbox; clear BK2 HB; have BK2 := n0_; have HB := n1_; clear n0_ n1_ hbox hb hg))
  have hc0 : w3.cell? ⟨gb2, 0, none⟩ = some (.int .u32 a0_0) := (blk_cell BK2.out 0).trans rfl
  have hf0 := blk_frozen BK2.out 0
  have hd0 : w3.cell? ⟨gb3, 0, none⟩ = some (.int .u32 a1_0) := (blk_cell BK3.out 0).trans rfl
  have hg0 := blk_frozen BK3.out 0
  have hc1 : w3.cell? ⟨gb2, 1, none⟩ = some (.int .u32 a0_1) := (blk_cell BK2.out 1).trans rfl
  have hf1 := blk_frozen BK2.out 1
  have hd1 : w3.cell? ⟨gb3, 1, none⟩ = some (.int .u32 a1_1) := (blk_cell BK3.out 1).trans rfl
  have hg1 := blk_frozen BK3.out 1
  have hc2 : w3.cell? ⟨gb2, 2, none⟩ = some (.int .u32 a0_2) := (blk_cell BK2.out 2).trans rfl
  have hf2 := blk_frozen BK2.out 2
  have hd2 : w3.cell? ⟨gb3, 2, none⟩ = some (.int .u32 a1_2) := (blk_cell BK3.out 2).trans rfl
  have hg2 := blk_frozen BK3.out 2
  have hc3 : w3.cell? ⟨gb2, 3, none⟩ = some (.int .u32 a0_3) := (blk_cell BK2.out 3).trans rfl
  have hf3 := blk_frozen BK2.out 3
  have hd3 : w3.cell? ⟨gb3, 3, none⟩ = some (.int .u32 a1_3) := (blk_cell BK3.out 3).trans rfl
  have hg3 := blk_frozen BK3.out 3
  have hc4 : w3.cell? ⟨gb2, 4, none⟩ = some (.int .u32 a0_4) := (blk_cell BK2.out 4).trans rfl
  have hf4 := blk_frozen BK2.out 4
  have hd4 : w3.cell? ⟨gb3, 4, none⟩ = some (.int .u32 a1_4) := (blk_cell BK3.out 4).trans rfl
  have hg4 := blk_frozen BK3.out 4
  have hc5 : w3.cell? ⟨gb2, 5, none⟩ = some (.int .u32 a0_5) := (blk_cell BK2.out 5).trans rfl
  have hf5 := blk_frozen BK2.out 5
  have hd5 : w3.cell? ⟨gb3, 5, none⟩ = some (.int .u32 a1_5) := (blk_cell BK3.out 5).trans rfl
  have hg5 := blk_frozen BK3.out 5
  have hc6 : w3.cell? ⟨gb2, 6, none⟩ = some (.int .u32 a0_6) := (blk_cell BK2.out 6).trans rfl
  have hf6 := blk_frozen BK2.out 6
  have hd6 : w3.cell? ⟨gb3, 6, none⟩ = some (.int .u32 a1_6) := (blk_cell BK3.out 6).trans rfl
  have hg6 := blk_frozen BK3.out 6
  have hc7 : w3.cell? ⟨gb2, 7, none⟩ = some (.int .u32 a0_7) := (blk_cell BK2.out 7).trans rfl
  have hf7 := blk_frozen BK2.out 7
  have hd7 : w3.cell? ⟨gb3, 7, none⟩ = some (.int .u32 a1_7) := (blk_cell BK3.out 7).trans rfl
  have hg7 := blk_frozen BK3.out 7
  refine wp_loop_rounds 9 ?_
  rw [rounds_succ]
  by_cases c7 : a0_7 = a1_7
  · rw [if_pos c7] at h
    have b7 : (a0_7 != a1_7) = false := bne_eq_false_iff_eq.mpr c7
    clear c7
    go_wp2
    repeat (go_quiet (fail); try go_wp2)
    clear b7
    rw [rounds_succ]
    by_cases c6 : a0_6 = a1_6
    · rw [if_pos c6] at h
      have b6 : (a0_6 != a1_6) = false := bne_eq_false_iff_eq.mpr c6
      clear c6
      go_wp2
      repeat (go_quiet (fail); try go_wp2)
      clear b6
      rw [rounds_succ]
      by_cases c5 : a0_5 = a1_5
      · rw [if_pos c5] at h
        have b5 : (a0_5 != a1_5) = false := bne_eq_false_iff_eq.mpr c5
        clear c5
        go_wp2
        repeat (go_quiet (fail); try go_wp2)
        clear b5
        rw [rounds_succ]
        by_cases c4 : a0_4 = a1_4
        · rw [if_pos c4] at h
          have b4 : (a0_4 != a1_4) = false := bne_eq_false_iff_eq.mpr c4
          clear c4
          go_wp2
          repeat (go_quiet (fail); try go_wp2)
          clear b4
          rw [rounds_succ]
          by_cases c3 : a0_3 = a1_3
          · rw [if_pos c3] at h
            have b3 : (a0_3 != a1_3) = false := bne_eq_false_iff_eq.mpr c3
            clear c3
            go_wp2
            repeat (go_quiet (fail); try go_wp2)
            clear b3
            rw [rounds_succ]
            by_cases c2 : a0_2 = a1_2
            · rw [if_pos c2] at h
              have b2 : (a0_2 != a1_2) = false := bne_eq_false_iff_eq.mpr c2
              clear c2
              go_wp2
              repeat (go_quiet (fail); try go_wp2)
              clear b2
              rw [rounds_succ]
              by_cases c1 : a0_1 = a1_1
              · rw [if_pos c1] at h
                have b1 : (a0_1 != a1_1) = false := bne_eq_false_iff_eq.mpr c1
                clear c1
                go_wp2
                repeat (go_quiet (fail); try go_wp2)
                clear b1
                rw [rounds_succ]
                by_cases c0 : a0_0 = a1_0
                · rw [if_pos c0] at h
                  have b0 : (a0_0 != a1_0) = false := bne_eq_false_iff_eq.mpr c0
                  clear c0
                  go_wp2
                  repeat (go_quiet (fail); try go_wp2)
                  clear b0
                  rw [rounds_succ]
                  go_wp2
                  obtain rfl := Option.some.inj h
                  refine bodyPost_ret (v := .bool (false)) (results_single (r := .tmp 4) rfl (.tmp .nil)) rfl ⟨rfl, ?_⟩
                  repeat (with_reducible first | exact HB.out | apply pw_below_drewN | apply below_drew1)
                · rw [if_neg c0] at h
                  obtain rfl := Option.some.inj h
                  have b0 : (a0_0 != a1_0) = true := bne_iff_ne.mpr c0
                  clear c0
                  go_wp2
                  repeat (go_quiet (fail); try go_wp2)
                  refine bodyPost_ret (v := .bool (decide (a0_0 < a1_0))) (results_single (r := .tmp 4) rfl (.tmp .nil)) rfl ⟨rfl, ?_⟩
                  repeat (with_reducible first | exact HB.out | apply pw_below_drewN | apply below_drew1)
              · rw [if_neg c1] at h
                obtain rfl := Option.some.inj h
                have b1 : (a0_1 != a1_1) = true := bne_iff_ne.mpr c1
                clear c1
                go_wp2
                repeat (go_quiet (fail); try go_wp2)
                refine bodyPost_ret (v := .bool (decide (a0_1 < a1_1))) (results_single (r := .tmp 4) rfl (.tmp .nil)) rfl ⟨rfl, ?_⟩
                repeat (with_reducible first | exact HB.out | apply pw_below_drewN | apply below_drew1)
            · rw [if_neg c2] at h
              obtain rfl := Option.some.inj h
              have b2 : (a0_2 != a1_2) = true := bne_iff_ne.mpr c2
              clear c2
              go_wp2
              repeat (go_quiet (fail); try go_wp2)
              refine bodyPost_ret (v := .bool (decide (a0_2 < a1_2))) (results_single (r := .tmp 4) rfl (.tmp .nil)) rfl ⟨rfl, ?_⟩
              repeat (with_reducible first | exact HB.out | apply pw_below_drewN | apply below_drew1)
          · rw [if_neg c3] at h
            obtain rfl := Option.some.inj h
            have b3 : (a0_3 != a1_3) = true := bne_iff_ne.mpr c3
            clear c3
            go_wp2
            repeat (go_quiet (fail); try go_wp2)
            refine bodyPost_ret (v := .bool (decide (a0_3 < a1_3))) (results_single (r := .tmp 4) rfl (.tmp .nil)) rfl ⟨rfl, ?_⟩
            repeat (with_reducible first | exact HB.out | apply pw_below_drewN | apply below_drew1)
        · rw [if_neg c4] at h
          obtain rfl := Option.some.inj h
          have b4 : (a0_4 != a1_4) = true := bne_iff_ne.mpr c4
          clear c4
          go_wp2
          repeat (go_quiet (fail); try go_wp2)
          refine bodyPost_ret (v := .bool (decide (a0_4 < a1_4))) (results_single (r := .tmp 4) rfl (.tmp .nil)) rfl ⟨rfl, ?_⟩
          repeat (with_reducible first | exact HB.out | apply pw_below_drewN | apply below_drew1)
      · rw [if_neg c5] at h
        obtain rfl := Option.some.inj h
        have b5 : (a0_5 != a1_5) = true := bne_iff_ne.mpr c5
        clear c5
        go_wp2
        repeat (go_quiet (fail); try go_wp2)
        refine bodyPost_ret (v := .bool (decide (a0_5 < a1_5))) (results_single (r := .tmp 4) rfl (.tmp .nil)) rfl ⟨rfl, ?_⟩
        repeat (with_reducible first | exact HB.out | apply pw_below_drewN | apply below_drew1)
    · rw [if_neg c6] at h
      obtain rfl := Option.some.inj h
      have b6 : (a0_6 != a1_6) = true := bne_iff_ne.mpr c6
      clear c6
      go_wp2
      repeat (go_quiet (fail); try go_wp2)
      refine bodyPost_ret (v := .bool (decide (a0_6 < a1_6))) (results_single (r := .tmp 4) rfl (.tmp .nil)) rfl ⟨rfl, ?_⟩
      repeat (with_reducible first | exact HB.out | apply pw_below_drewN | apply below_drew1)
  · rw [if_neg c7] at h
    obtain rfl := Option.some.inj h
    have b7 : (a0_7 != a1_7) = true := bne_iff_ne.mpr c7
    clear c7
    go_wp2
    repeat (go_quiet (fail); try go_wp2)
    refine bodyPost_ret (v := .bool (decide (a0_7 < a1_7))) (results_single (r := .tmp 4) rfl (.tmp .nil)) rfl ⟨rfl, ?_⟩
    repeat (with_reducible first | exact HB.out | apply pw_below_drewN | apply below_drew1)


/-! ### arrearsref03_Div: function 24 -/
section
open Go.Proofs.YtfpbibfoipbahaaDoor.M
def arrearsref03_Div.f (a0_0 a0_1 a0_2 a0_3 a0_4 a0_5 a0_6 a0_7 a1 : Int) : Option (Int × Int × Int × Int × Int × Int × Int × Int × Int) :=
  if (0 ≤ a0_0 ∧ a0_0 ≤ 65535) ∧ (0 ≤ a0_1 ∧ a0_1 ≤ 65535) ∧ (0 ≤ a0_2 ∧ a0_2 ≤ 65535) ∧ (0 ≤ a0_3 ∧ a0_3 ≤ 65535) ∧ (0 ≤ a0_4 ∧ a0_4 ≤ 65535) ∧ (0 ≤ a0_5 ∧ a0_5 ≤ 65535) ∧ (0 ≤ a0_6 ∧ a0_6 ≤ 65535) ∧ (0 ≤ a0_7 ∧ a0_7 ≤ 65535) ∧ (1 ≤ a1 ∧ a1 ≤ 18446744073709551615) then some (((dg (num8 a0_0 a0_1 a0_2 a0_3 a0_4 a0_5 a0_6 a0_7 / a1.toNat) 0 : Nat) : Int), ((dg (num8 a0_0 a0_1 a0_2 a0_3 a0_4 a0_5 a0_6 a0_7 / a1.toNat) 1 : Nat) : Int), ((dg (num8 a0_0 a0_1 a0_2 a0_3 a0_4 a0_5 a0_6 a0_7 / a1.toNat) 2 : Nat) : Int), ((dg (num8 a0_0 a0_1 a0_2 a0_3 a0_4 a0_5 a0_6 a0_7 / a1.toNat) 3 : Nat) : Int), ((dg (num8 a0_0 a0_1 a0_2 a0_3 a0_4 a0_5 a0_6 a0_7 / a1.toNat) 4 : Nat) : Int), ((dg (num8 a0_0 a0_1 a0_2 a0_3 a0_4 a0_5 a0_6 a0_7 / a1.toNat) 5 : Nat) : Int), ((dg (num8 a0_0 a0_1 a0_2 a0_3 a0_4 a0_5 a0_6 a0_7 / a1.toNat) 6 : Nat) : Int), ((dg (num8 a0_0 a0_1 a0_2 a0_3 a0_4 a0_5 a0_6 a0_7 / a1.toNat) 7 : Nat) : Int), ((num8 a0_0 a0_1 a0_2 a0_3 a0_4 a0_5 a0_6 a0_7 % a1.toNat : Nat) : Int)) else none
set_option maxHeartbeats 4000000 in
set_option maxRecDepth 100000 in
theorem divr11 (ops : Array Oper) (hops : Tryd.f24.body.bind (findR 11) = some (ops, true)) (Q : Exit → Act → World → Prop) (w : World) (gs k r : Nat) (ii : Int) (e1 : Int.tdiv ii 16 = (k : Nat)) (e2 : Int.tmod ii 16 = (r : Nat)) (D : Int) (ds : _) (t0 t1 t2 t3 t4 t5 t7 t9 t10 t11 t12 t13 t14 t15 t16 t17 t18 t19 t20 t21 t22 t23 t24 t25 t26 t27 t28 t29 t30 t31 t32 t33 t34 t35 t36 t37 t38 t39 t40 t41 t42 t43 t44 t45 t46 t47 t48 t49 : Value)
    (hQ : ∀ c a d v w, Q (.panic c) (Act.put a d v) w → Q (.panic c) a w) (hfz : w.frozen? ⟨gs, k, none⟩ = false) (hD : 0 ≤ D ∧ D ≤ 65535) (hk : k < 8) (hr : r < 16) (hs : w.cell? ⟨gs, k, none⟩ = some (.int .u32 D))
    (H : ∀ (u39 u40 u41 u42 u43 u44 u45 u46 u47 : Value), Q .normal { tmps := (List.toArray (t0 :: t1 :: t2 :: t3 :: t4 :: t5 :: Value.pointer (some ⟨gs, 0, none⟩) :: t7 :: Value.int IntKind.i64 ii :: t9 :: t10 :: t11 :: t12 :: t13 :: t14 :: t15 :: t16 :: t17 :: t18 :: t19 :: t20 :: t21 :: t22 :: t23 :: t24 :: t25 :: t26 :: t27 :: t28 :: t29 :: t30 :: t31 :: t32 :: t33 :: t34 :: t35 :: t36 :: t37 :: t38 :: u39 :: u40 :: u41 :: u42 :: u43 :: u44 :: u45 :: u46 :: u47 :: t48 :: t49 :: [])), defers := ds } (w.setCell ⟨gs, k, none⟩ (.int .u32 (bits BinOp.or IntKind.u32 D (2 ^ r)))).drew) :
    Code.wp Tryd.prog (.region 11 ops true) Q { tmps := (List.toArray (t0 :: t1 :: t2 :: t3 :: t4 :: t5 :: Value.pointer (some ⟨gs, 0, none⟩) :: t7 :: Value.int IntKind.i64 ii :: t9 :: t10 :: t11 :: t12 :: t13 :: t14 :: t15 :: t16 :: t17 :: t18 :: t19 :: t20 :: t21 :: t22 :: t23 :: t24 :: t25 :: t26 :: t27 :: t28 :: t29 :: t30 :: t31 :: t32 :: t33 :: t34 :: t35 :: t36 :: t37 :: t38 :: t39 :: t40 :: t41 :: t42 :: t43 :: t44 :: t45 :: t46 :: t47 :: t48 :: t49 :: [])), defers := ds } w := by
  have e5 : IntKind.u32.wrap (2 ^ r) = 2 ^ r := wrap_pow r hr
  have c1 : ((k : Int) < 8) = True := eq_true (by omega)
  have e6 : wrap64 (k : Int) = (k : Nat) := by unfold wrap64; omega
  have e7 : wrap64 (r : Int) = (r : Nat) := by unfold wrap64; omega
  simp [Tryd.f24, findR] at hops
  subst hops
  refine start_ (n := 10) (S := fun w' => w'.cell? ⟨gs, k, none⟩ = some (.int .u32 D)) (ds := [9]) #[false, false, false, false, false, false, false, false, false, false] (by kernel_rfl) rfl rfl hs (fun hHeld => ?_)
  refine pure_ (i := 0) (N := some 39) (v := ?_) (a' := ?_) #[true, false, false, false, false, false, false, false, false, false] rfl rfl (by kernel_rfl) (fun c a w h => hQ c _ _ _ w h) (Or.inl ⟨by rfl, ?_⟩) ?_ ?_
  rotate_left
  · intro w'
    go_simp
    (try simp only [e1, e2, e5, e6, e7, c1, if_true, if_pos trivial])
    with_reducible rfl
  rotate_left
  · simp only [Act.put, List.setIfInBounds_toArray, List.set_cons_zero, List.set_cons_succ, i64_w, i32_w]
    rfl
  refine pure_ (i := 1) (N := some 40) (v := ?_) (a' := ?_) #[true, true, false, false, false, false, false, false, false, false] rfl rfl (by kernel_rfl) (fun c a w h => hQ c _ _ _ w h) (Or.inl ⟨by rfl, ?_⟩) ?_ ?_
  rotate_left
  · intro w'
    go_simp
    (try simp only [e1, e2, e5, e6, e7, c1, if_true, if_pos trivial])
    with_reducible rfl
  rotate_left
  · simp only [Act.put, List.setIfInBounds_toArray, List.set_cons_zero, List.set_cons_succ, i64_w, i32_w]
    rfl
  refine pure_ (i := 2) (N := some 41) (v := ?_) (a' := ?_) #[true, true, true, false, false, false, false, false, false, false] rfl rfl (by kernel_rfl) (fun c a w h => hQ c _ _ _ w h) (Or.inl ⟨by rfl, ?_⟩) ?_ ?_
  rotate_left
  · intro w'
    go_simp
    (try simp only [e1, e2, e5, e6, e7, c1, if_true, if_pos trivial])
    with_reducible rfl
  rotate_left
  · simp only [Act.put, List.setIfInBounds_toArray, List.set_cons_zero, List.set_cons_succ, i64_w, i32_w]
    rfl
  refine pure_ (i := 4) (N := some 43) (v := ?_) (a' := ?_) #[true, true, true, false, true, false, false, false, false, false] rfl rfl (by kernel_rfl) (fun c a w h => hQ c _ _ _ w h) (Or.inl ⟨by rfl, ?_⟩) ?_ ?_
  rotate_left
  · intro w'
    go_simp
    (try simp only [e1, e2, e5, e6, e7, c1, if_true, if_pos trivial])
    with_reducible rfl
  rotate_left
  · simp only [Act.put, List.setIfInBounds_toArray, List.set_cons_zero, List.set_cons_succ, i64_w, i32_w]
    rfl
  refine pure_ (i := 5) (N := some 44) (v := ?_) (a' := ?_) #[true, true, true, false, true, true, false, false, false, false] rfl rfl (by kernel_rfl) (fun c a w h => hQ c _ _ _ w h) (Or.inl ⟨by rfl, ?_⟩) ?_ ?_
  rotate_left
  · intro w'
    go_simp
    (try simp only [e1, e2, e5, e6, e7, c1, if_true, if_pos trivial])
    with_reducible rfl
  rotate_left
  · simp only [Act.put, List.setIfInBounds_toArray, List.set_cons_zero, List.set_cons_succ, i64_w, i32_w]
    rfl
  refine pure_ (i := 6) (N := some 45) (v := ?_) (a' := ?_) #[true, true, true, false, true, true, true, false, false, false] rfl rfl (by kernel_rfl) (fun c a w h => hQ c _ _ _ w h) (Or.inl ⟨by rfl, ?_⟩) ?_ ?_
  rotate_left
  · intro w'
    go_simp
    (try simp only [e1, e2, e5, e6, e7, c1, if_true, if_pos trivial])
    with_reducible rfl
  rotate_left
  · simp only [Act.put, List.setIfInBounds_toArray, List.set_cons_zero, List.set_cons_succ, i64_w, i32_w]
    rfl
  refine take_ (i := 3) (N := some 42) (v := ?_) (a' := ?_) #[true, true, true, true, true, true, true, false, false, false] rfl rfl (by kernel_rfl) (fun c a w h => hQ c _ _ _ w h) (Or.inl ⟨by rfl, ?_⟩) hHeld ?_ ?_
  rotate_left
  · intro w' s0
    go_simp
    (try simp only [s0, e1, e2, e5, e6, e7, c1, if_true, if_pos trivial])
    with_reducible rfl
  rotate_left
  · simp only [Act.put, List.setIfInBounds_toArray, List.set_cons_zero, List.set_cons_succ, i64_w, i32_w]
    rfl
  refine pure_ (i := 7) (N := some 46) (v := ?_) (a' := ?_) #[true, true, true, true, true, true, true, true, false, false] rfl rfl (by kernel_rfl) (fun c a w h => hQ c _ _ _ w h) (Or.inl ⟨by rfl, ?_⟩) ?_ ?_
  rotate_left
  · intro w'
    go_simp
    (try simp only [e1, e2, e5, e6, e7, c1, if_true, if_pos trivial])
    with_reducible rfl
  rotate_left
  · simp only [Act.put, List.setIfInBounds_toArray, List.set_cons_zero, List.set_cons_succ, i64_w, i32_w]
    rfl
  refine pure_ (i := 8) (N := some 47) (v := ?_) (a' := ?_) #[true, true, true, true, true, true, true, true, true, false] rfl rfl (by kernel_rfl) (fun c a w h => hQ c _ _ _ w h) (Or.inl ⟨by rfl, ?_⟩) ?_ ?_
  rotate_left
  · intro w'
    go_simp
    (try simp only [e1, e2, e5, e6, e7, c1, if_true, if_pos trivial])
    with_reducible rfl
  rotate_left
  · simp only [Act.put, List.setIfInBounds_toArray, List.set_cons_zero, List.set_cons_succ, i64_w, i32_w]
    rfl
  refine last_ (i := 9) (N := none) #[true, true, true, true, true, true, true, true, true, true] rfl rfl (by kernel_rfl) (by decide) (fun K hK => ?_)
  refine skip_ (w1 := ?_) (by rfl) rfl ?_ ?_
  rotate_left
  · go_simp
    (try simp only [hfz, if_false, e1, e2, e5, e6, e7])
    rfl
  refine hK.out _ _ ?_
  clear hK K
  refine done_ (by kernel_rfl) ?_
  exact H _ _ _ _ _ _ _ _ _
set_option maxHeartbeats 4000000 in
set_option maxRecDepth 100000 in
theorem refdiv_walk (N n : Nat) (hN : N < 2 ^ 128) (hn : 0 < n) (hn2 : n < 2 ^ 64) (w : World) :
    Calls Tryd.prog 24 #[.agg (cells8 (dg N)), .int .u64 n] w fun e w' => e = .returned (.tuple #[.agg (cells8 (dg (N / n))), .int .u64 (N % n : Nat)]) ∧ Below w.heap.size w w' := by
  go_enter Tryd.func24, Tryd.ntmps24
  go_upto_region 4 with (first | ((with_reducible refine gate_dst (N := 2) rfl ?_); (try (refine gate_guard (by rfl) ?_; dsimp only)); refine box_event ?hg (N := 2) ?hd (cs := cells8 (dg N)) (t := 46) ?hr ?_; (case hd => rfl); (case hg => rfl); (case hr => first | (go_simp; done) | (go_simp; rfl)); intro gb2 hg w2 hbox hb; have BK2 := Aside0.mk hbox; have HB := Aside0.mk hb; have GE2 := Aside0.mk (Nat.le_of_eq hg.symm : w.heap.size ≤ gb2); clear hbox hb hg) | ((with_reducible refine gate_dst (N := 4) rfl ?_); (try (refine gate_guard (by rfl) ?_; dsimp only)); refine box_event ?hg (N := 4) ?hd (cs := #[.int .u32 0, .int .u32 0, .int .u32 0, .int .u32 0, .int .u32 0, .int .u32 0, .int .u32 0, .int .u32 0]) (t := 46) ?hr ?_; (case hd => rfl); (case hg => rfl); (case hr => first | (go_simp; done) | (go_simp; rfl)); intro gb4 hg w4 hbox hb; have n2_ := Aside0.mk (blk_below BK2.out hb); have NB2_4 := Aside0.mk (by rw [hg]; exact Nat.ne_of_lt (blk_lt BK2.out) : gb2 ≠ gb4); have m_ := Aside0.mk (below_step HB.out hb); have GE4 := Aside0.mk (Nat.le_trans (below_size HB.out) (Nat.le_of_eq hg.symm) : w.heap.size ≤ gb4); clear HB; have HB := m_; clear m_; clear BK2; have BK2 := n2_; clear n2_; have BK4 := Aside0.mk hbox; clear hbox hb hg) | ((with_reducible refine gate_dst (N := 6) rfl ?_); (try (refine gate_guard (by rfl) ?_; dsimp only)); refine box_event ?hg (N := 6) ?hd (cs := #[.int .u32 0, .int .u32 0, .int .u32 0, .int .u32 0, .int .u32 0, .int .u32 0, .int .u32 0, .int .u32 0]) (t := 46) ?hr ?_; (case hd => rfl); (case hg => rfl); (case hr => first | (go_simp; done) | (go_simp; rfl)); intro gb6 hg w6 hbox hb; have n2_ := Aside0.mk (blk_below BK2.out hb); have NB2_6 := Aside0.mk (by rw [hg]; exact Nat.ne_of_lt (blk_lt BK2.out) : gb2 ≠ gb6); have n4_ := Aside0.mk (blk_below BK4.out hb); have NB4_6 := Aside0.mk (by rw [hg]; exact Nat.ne_of_lt (blk_lt BK4.out) : gb4 ≠ gb6); have m_ := Aside0.mk (below_step HB.out hb); have GE6 := Aside0.mk (Nat.le_trans (below_size HB.out) (Nat.le_of_eq hg.symm) : w.heap.size ≤ gb6); clear HB; have HB := m_; clear m_; clear BK2; have BK2 := n2_; clear n2_; clear BK4; have BK4 := n4_; clear n4_; have BK6 := Aside0.mk hbox; clear hbox hb hg))
  trace "R4"
  refine wp_loop_rounds 129 ?_
  refine rounds_inv (I := fun k a W => k ≤ 128 ∧ ∃ (t3 t5 t9 t10 t11 t12 t13 t14 t15 t16 t17 t18 t19 t20 t21 t22 t23 t24 t25 t26 t27 t28 t29 t30 t31 t32 t33 t34 t35 t36 t37 t38 t39 t40 t41 t42 t43 t44 t45 t46 t47 t48 t49 : Value) (q l : Nat), N / 2 ^ k = q * n + l ∧ l < n ∧ a = { tmps := (List.toArray (Value.agg (cells8 (dg N)) :: Value.int IntKind.u64 n :: Value.pointer (some ⟨gb2, 0, none⟩) :: t3 :: Value.pointer (some ⟨gb4, 0, none⟩) :: t5 :: Value.pointer (some ⟨gb6, 0, none⟩) :: Value.int IntKind.u64 (l : Nat) :: Value.int IntKind.i64 ((k : Int) - 1) :: t9 :: t10 :: t11 :: t12 :: t13 :: t14 :: t15 :: t16 :: t17 :: t18 :: t19 :: t20 :: t21 :: t22 :: t23 :: t24 :: t25 :: t26 :: t27 :: t28 :: t29 :: t30 :: t31 :: t32 :: t33 :: t34 :: t35 :: t36 :: t37 :: t38 :: t39 :: t40 :: t41 :: t42 :: t43 :: t44 :: t45 :: t46 :: t47 :: t48 :: t49 :: [])), defers := [] } ∧ Below w.heap.size w W ∧ W.heap[gb2]? = some (.cells (cells8 (dg N)) 46 (0, 0)) ∧ W.heap[gb4]? = some (.cells (cells8 (fun _ => 0)) 46 (0, 0)) ∧ W.heap[gb6]? = some (.cells (cells8 (dg (2 ^ k * q))) 46 (0, 0))) ?step 128 _ _ ?init
  case init =>
    refine ⟨Nat.le_refl _, _, _, _, _, _, _, _, _, _, _, _, _, _, _, _, _, _, _, _, _, _, _, _, _, _, _, _, _, _, _, _, _, _, _, _, _, _, _, _, _, _, _, _, 0, 0, ?_, hn, rfl, HB.out, BK2.out, BK4.out, ?_⟩
    · rw [Nat.div_eq_of_lt hN, Nat.zero_mul]
    · rw [Nat.mul_zero, show dg 0 = fun _ => 0 from by funext k; simp [dg]]; exact BK6.out
  case step =>
    clear BK2 BK4 BK6 HB
    rintro k a W ⟨hk, t3, t5, t9, t10, t11, t12, t13, t14, t15, t16, t17, t18, t19, t20, t21, t22, t23, t24, t25, t26, t27, t28, t29, t30, t31, t32, t33, t34, t35, t36, t37, t38, t39, t40, t41, t42, t43, t44, t45, t46, t47, t48, t49, q, l, hq, hl, rfl, hB, b2, b4, b6⟩ K hK
    rcases k with _ | m
    · rw [show (((0 : Nat) : Int) - 1) = -1 from rfl]
      have de := div_end N n q l (by simpa using hq) hl
      have HBL := Aside0.mk hB
      obtain ⟨L, hL⟩ : ∃ z : Int, z = (l : Nat) := ⟨_, rfl⟩
      obtain ⟨M, hM⟩ : ∃ z : Int, z = (n : Nat) := ⟨_, rfl⟩
      obtain ⟨E, hE⟩ : ∃ E : Nat → Int, E = fun k => ((dg (2 ^ 0 * q) k : Nat) : Int) := ⟨_, rfl⟩
      rw [← hL, ← hM]
      replace b6 : W.heap[gb6]? = some (.cells #[.int .u32 (E 0), .int .u32 (E 1), .int .u32 (E 2), .int .u32 (E 3), .int .u32 (E 4), .int .u32 (E 5), .int .u32 (E 6), .int .u32 (E 7)] 46 (0, 0)) := by rw [hE]; exact b6
      replace b4 : W.heap[gb4]? = some (.cells #[.int .u32 0, .int .u32 0, .int .u32 0, .int .u32 0, .int .u32 0, .int .u32 0, .int .u32 0, .int .u32 0] 46 (0, 0)) := b4
      have hc4_0 : W.cell? ⟨gb4, 0, none⟩ = some (.int .u32 0) := (blk_cell b4 0).trans rfl
      have hf4_0 := blk_frozen b4 0
      have hc4_1 : W.cell? ⟨gb4, 1, none⟩ = some (.int .u32 0) := (blk_cell b4 1).trans rfl
      have hf4_1 := blk_frozen b4 1
      have hc4_2 : W.cell? ⟨gb4, 2, none⟩ = some (.int .u32 0) := (blk_cell b4 2).trans rfl
      have hf4_2 := blk_frozen b4 2
      have hc4_3 : W.cell? ⟨gb4, 3, none⟩ = some (.int .u32 0) := (blk_cell b4 3).trans rfl
      have hf4_3 := blk_frozen b4 3
      have hc4_4 : W.cell? ⟨gb4, 4, none⟩ = some (.int .u32 0) := (blk_cell b4 4).trans rfl
      have hf4_4 := blk_frozen b4 4
      have hc4_5 : W.cell? ⟨gb4, 5, none⟩ = some (.int .u32 0) := (blk_cell b4 5).trans rfl
      have hf4_5 := blk_frozen b4 5
      have hc4_6 : W.cell? ⟨gb4, 6, none⟩ = some (.int .u32 0) := (blk_cell b4 6).trans rfl
      have hf4_6 := blk_frozen b4 6
      have hc4_7 : W.cell? ⟨gb4, 7, none⟩ = some (.int .u32 0) := (blk_cell b4 7).trans rfl
      have hf4_7 := blk_frozen b4 7
      have hc6_0 : W.cell? ⟨gb6, 0, none⟩ = some (.int .u32 (E 0)) := (blk_cell b6 0).trans rfl
      have hf6_0 := blk_frozen b6 0
      have hc6_1 : W.cell? ⟨gb6, 1, none⟩ = some (.int .u32 (E 1)) := (blk_cell b6 1).trans rfl
      have hf6_1 := blk_frozen b6 1
      have hc6_2 : W.cell? ⟨gb6, 2, none⟩ = some (.int .u32 (E 2)) := (blk_cell b6 2).trans rfl
      have hf6_2 := blk_frozen b6 2
      have hc6_3 : W.cell? ⟨gb6, 3, none⟩ = some (.int .u32 (E 3)) := (blk_cell b6 3).trans rfl
      have hf6_3 := blk_frozen b6 3
      have hc6_4 : W.cell? ⟨gb6, 4, none⟩ = some (.int .u32 (E 4)) := (blk_cell b6 4).trans rfl
      have hf6_4 := blk_frozen b6 4
      have hc6_5 : W.cell? ⟨gb6, 5, none⟩ = some (.int .u32 (E 5)) := (blk_cell b6 5).trans rfl
      have hf6_5 := blk_frozen b6 5
      have hc6_6 : W.cell? ⟨gb6, 6, none⟩ = some (.int .u32 (E 6)) := (blk_cell b6 6).trans rfl
      have hf6_6 := blk_frozen b6 6
      have hc6_7 : W.cell? ⟨gb6, 7, none⟩ = some (.int .u32 (E 7)) := (blk_cell b6 7).trans rfl
      have hf6_7 := blk_frozen b6 7
      have hne := Ne.symm NB4_6.out
      have hne' := NB4_6.out
      have HLL := Aside0.mk hL
      have HMM := Aside0.mk hM
      have HE := Aside0.mk hE
      clear hL hM hE hB hq hl hN hn hn2 b2
      go_wp2
      refine bodyPost_ret (results_ct (p := 4) (u := 5) (ty := 46) rfl _ _ gb4 46 #[.int .u32 (E 0), .int .u32 (E 1), .int .u32 (E 2), .int .u32 (E 3), .int .u32 (E 4), .int .u32 (E 5), .int .u32 (E 6), .int .u32 (E 7)] (0, 0) _ rfl ?hg Tryd.underlying46 rfl (by kernel_rfl)) rfl ⟨?hv, ?hbl⟩
      case hg =>
        refine blk_put (cs := #[.int .u32 (E 0), .int .u32 (E 1), .int .u32 (E 2), .int .u32 (E 3), .int .u32 (E 4), .int .u32 (E 5), .int .u32 (E 6), .int .u32 0]) ?_ 7 _ rfl
        refine blk_put (cs := #[.int .u32 (E 0), .int .u32 (E 1), .int .u32 (E 2), .int .u32 (E 3), .int .u32 (E 4), .int .u32 (E 5), .int .u32 0, .int .u32 0]) ?_ 6 _ rfl
        refine blk_put (cs := #[.int .u32 (E 0), .int .u32 (E 1), .int .u32 (E 2), .int .u32 (E 3), .int .u32 (E 4), .int .u32 0, .int .u32 0, .int .u32 0]) ?_ 5 _ rfl
        refine blk_put (cs := #[.int .u32 (E 0), .int .u32 (E 1), .int .u32 (E 2), .int .u32 (E 3), .int .u32 0, .int .u32 0, .int .u32 0, .int .u32 0]) ?_ 4 _ rfl
        refine blk_put (cs := #[.int .u32 (E 0), .int .u32 (E 1), .int .u32 (E 2), .int .u32 0, .int .u32 0, .int .u32 0, .int .u32 0, .int .u32 0]) ?_ 3 _ rfl
        refine blk_put (cs := #[.int .u32 (E 0), .int .u32 (E 1), .int .u32 0, .int .u32 0, .int .u32 0, .int .u32 0, .int .u32 0, .int .u32 0]) ?_ 2 _ rfl
        refine blk_put (cs := #[.int .u32 (E 0), .int .u32 0, .int .u32 0, .int .u32 0, .int .u32 0, .int .u32 0, .int .u32 0, .int .u32 0]) ?_ 1 _ rfl
        refine blk_put (cs := #[.int .u32 0, .int .u32 0, .int .u32 0, .int .u32 0, .int .u32 0, .int .u32 0, .int .u32 0, .int .u32 0]) ?_ 0 _ rfl
        exact b4
      case hbl =>
        refine below_set ?_ GE4.out
        refine below_set ?_ GE4.out
        refine below_set ?_ GE4.out
        refine below_set ?_ GE4.out
        refine below_set ?_ GE4.out
        refine below_set ?_ GE4.out
        refine below_set ?_ GE4.out
        refine below_set ?_ GE4.out
        exact HBL.out
      case hv => rw [HLL.out, HE.out, ← de.1, ← de.2]; simp only [Nat.pow_zero, Nat.one_mul]; rfl
    · rw [show (((m + 1 : Nat) : Int) - 1) = (m : Int) by omega]
      have hm : m < 128 := by omega
      have hm1 : 0 ≤ (m : Int) ∧ (m : Int) ≤ 127 := by omega
      have HBL := Aside0.mk hB
      clear hB
      have c2 : W.cell? ⟨gb2, m / 16, none⟩ = some (.int .u32 (dg N (m / 16) : Nat)) := (blk_cell b2 (m / 16)).trans (cells8_get _ _ (by omega))
      have c6 : W.cell? ⟨gb6, m / 16, none⟩ = some (.int .u32 (dg (2 ^ (m + 1) * q) (m / 16) : Nat)) := (blk_cell b6 (m / 16)).trans (cells8_get _ _ (by omega))
      have f6 := blk_frozen b6 (m / 16)
      have d2 := dg_lt N (m / 16)
      have d6 := dg_lt (2 ^ (m + 1) * q) (m / 16)
      obtain ⟨D2, hD2⟩ : ∃ z : Int, z = (dg N (m / 16) : Nat) := ⟨_, rfl⟩
      obtain ⟨D6, hD6⟩ : ∃ z : Int, z = (dg (2 ^ (m + 1) * q) (m / 16) : Nat) := ⟨_, rfl⟩
      obtain ⟨L, hL⟩ : ∃ z : Int, z = (l : Nat) := ⟨_, rfl⟩
      obtain ⟨M, hM⟩ : ∃ z : Int, z = (n : Nat) := ⟨_, rfl⟩
      rw [← hD2] at c2
      rw [← hD6] at c6
      rw [← hL, ← hM]
      have hd2 : 0 ≤ D2 ∧ D2 ≤ 65535 := by omega
      have hd6 : 0 ≤ D6 ∧ D6 ≤ 65535 := by omega
      have hl1 : 0 ≤ L ∧ L ≤ 18446744073709551615 := by omega
      have hn1 : 1 ≤ M ∧ M ≤ 18446744073709551615 := by omega
      have HD2 := Aside0.mk hD2
      have HD6 := Aside0.mk hD6
      have HQ := Aside0.mk hq
      have HNN := Aside0.mk hN
      have HL := Aside0.mk hL
      have HM := Aside0.mk hM
      have Hn := Aside0.mk hn
      have Hn2 := Aside0.mk hn2
      have Hl := Aside0.mk hl
      have B2 := Aside0.mk b2
      have B4 := Aside0.mk b4
      have B6 := Aside0.mk b6
      clear hD2 hD6 hq hN b2 b4 b6 d2 d6 hL hM hn hn2 hl
      have hD2 : 0 ≤ D2 / 2 ^ (m % 16) := Int.ediv_nonneg hd2.1 (Int.le_of_lt (Int.pow_pos (by decide)))
      go_wp2
      · rename_i h1 h2
        have hb : (IntKind.u64.wrap (D2 / 2 ^ (m % 16))).tmod 2 = ((N / 2 ^ m % 2 : Nat) : Int) := bit_eq N m D2 HD2.out
        have hb2 : N / 2 ^ m % 2 < 2 := Nat.mod_lt _ (by decide)
        have hll := HL.out
        have hnn := HM.out
        have hn2 := Hn2.out
        have ho : bits .or .u64 (L * 2) ((IntKind.u64.wrap (D2 / 2 ^ (m % 16))).tmod 2) = ((2 * l + N / 2 ^ m % 2 : Nat) : Int) := by rw [hb, hll]; exact or_low l _ (by omega) hb2
        rw [ho] at h2
        refine divr11 _ ?hops _ _ gb6 (m / 16) (m % 16) (m : Int) ?e1 ?e2 D6 _ _ _ _ _ _ _ _ _ _ _ _ _ _ _ _ _ _ _ _ _ _ _ _ _ _ _ _ _ _ _ _ _ _ _ _ _ _ _ _ _ _ _ _ _ _ _ _ _ ?hQ ?hfz ?hD ?hk ?hr ?hs ?H
        case hops => rfl
        case hQ => exact fun _ _ d _ _ h => by cases d <;> exact h
        case hfz => exact f6
        case hD => exact hd6
        case hk => omega
        case hr => omega
        case hs => exact c6
        case e1 => rw [Int.tdiv_eq_ediv_of_nonneg (by omega)]; omega
        case e2 => rw [Int.tmod_eq_emod_of_nonneg (by omega)]; omega
        intros
        go_wp2
        have hx : IntKind.u64.wrap (bits BinOp.or IntKind.u64 (L * 2) ((IntKind.u64.wrap (D2 / 2 ^ (m % 16))).tmod 2) - M) = ((2 * l + N / 2 ^ m % 2 - n : Nat) : Int) := by
          rw [ho, u64w]; have := Hl.out; omega
        rw [hx, hnn]
        have nx := next_ge N n m q l HQ.out Hl.out (by omega)
        exact hK m _ _ rfl ⟨by omega, _, _, _, _, _, _, _, _, _, _, _, _, _, _, _, _, _, _, _, _, _, _, _, _, _, _, _, _, _, _, _, _, _, _, _, _, _, _, _, _, _, _, _, 2 * q + 1, 2 * l + N / 2 ^ m % 2 - n, nx.1, nx.2, rfl, below_drew1 (below_set HBL.out GE6.out), blk_drew (blk_far B2.out NB2_6.out _), blk_drew (blk_far B4.out NB4_6.out _), blk_drew (blk_put B6.out (m / 16) _ (cells8_set _ _ _ (by omega) _ (or_dig q m D6 HD6.out) (fun k hk => dg_ne2 q m k hk)))⟩

      · rename_i h1 h2
        have hb : (IntKind.u64.wrap (D2 / 2 ^ (m % 16))).tmod 2 = ((N / 2 ^ m % 2 : Nat) : Int) := bit_eq N m D2 HD2.out
        have hb2 : N / 2 ^ m % 2 < 2 := Nat.mod_lt _ (by decide)
        have hll := HL.out
        have hnn := HM.out
        have hn2 := Hn2.out
        have ho : bits .or .u64 (L * 2) ((IntKind.u64.wrap (D2 / 2 ^ (m % 16))).tmod 2) = ((2 * l + N / 2 ^ m % 2 : Nat) : Int) := by rw [hb, hll]; exact or_low l _ (by omega) hb2
        rw [ho] at h2
        rw [ho, hnn]
        have nx := next_lt N n m q l HQ.out Hl.out (by omega)
        exact hK m _ _ rfl ⟨by omega, _, _, _, _, _, _, _, _, _, _, _, _, _, _, _, _, _, _, _, _, _, _, _, _, _, _, _, _, _, _, _, _, _, _, _, _, _, _, _, _, _, _, _, 2 * q, 2 * l + N / 2 ^ m % 2, nx.1, nx.2, rfl, HBL.out, B2.out, B4.out, by rw [show 2 ^ m * (2 * q) = 2 ^ (m + 1) * q by rw [Nat.pow_succ, Nat.mul_assoc]]; exact B6.out⟩
      · rename_i h1
        have hb : (IntKind.u64.wrap (D2 / 2 ^ (m % 16))).tmod 2 = ((N / 2 ^ m % 2 : Nat) : Int) := bit_eq N m D2 HD2.out
        have hb2 : N / 2 ^ m % 2 < 2 := Nat.mod_lt _ (by decide)
        have hll := HL.out
        have hnn := HM.out
        have hn2 := Hn2.out
        have ho : bits .or .u64 (IntKind.u64.wrap (L * 2)) ((IntKind.u64.wrap (D2 / 2 ^ (m % 16))).tmod 2) = ((2 * l + N / 2 ^ m % 2 : Nat) : Int) - 18446744073709551616 := by rw [hb, hll]; exact or_top l _ (by omega) (by omega) hb2
        refine divr11 _ ?hopsx _ _ gb6 (m / 16) (m % 16) (m : Int) ?e1x ?e2x D6 _ _ _ _ _ _ _ _ _ _ _ _ _ _ _ _ _ _ _ _ _ _ _ _ _ _ _ _ _ _ _ _ _ _ _ _ _ _ _ _ _ _ _ _ _ _ _ _ _ ?hQx ?hfzx ?hDx ?hkx ?hrx ?hsx ?Hx
        case hopsx => rfl
        case hQx => exact fun _ _ d _ _ h => by cases d <;> exact h
        case hfzx => exact f6
        case hDx => exact hd6
        case hkx => omega
        case hrx => omega
        case hsx => exact c6
        case e1x => rw [Int.tdiv_eq_ediv_of_nonneg (by omega)]; omega
        case e2x => rw [Int.tmod_eq_emod_of_nonneg (by omega)]; omega
        intros
        go_wp2
        trace_state
        have hx : IntKind.u64.wrap (bits BinOp.or IntKind.u64 (IntKind.u64.wrap (L * 2)) ((IntKind.u64.wrap (D2 / 2 ^ (m % 16))).tmod 2) - M) = ((2 * l + N / 2 ^ m % 2 - n : Nat) : Int) := by
          rw [ho, u64w]; have := Hl.out; omega
        rw [hx, hnn]
        have nx := next_ge N n m q l HQ.out Hl.out (by omega)
        exact hK m _ _ rfl ⟨by omega, _, _, _, _, _, _, _, _, _, _, _, _, _, _, _, _, _, _, _, _, _, _, _, _, _, _, _, _, _, _, _, _, _, _, _, _, _, _, _, _, _, _, _, 2 * q + 1, 2 * l + N / 2 ^ m % 2 - n, nx.1, nx.2, rfl, below_drew1 (below_set HBL.out GE6.out), blk_drew (blk_far B2.out NB2_6.out _), blk_drew (blk_far B4.out NB4_6.out _), blk_drew (blk_put B6.out (m / 16) _ (cells8_set _ _ _ (by omega) _ (or_dig q m D6 HD6.out) (fun k hk => dg_ne2 q m k hk)))⟩

theorem arrearsref03_Div.calls (a0_0 : Int) (a0_1 : Int) (a0_2 : Int) (a0_3 : Int) (a0_4 : Int) (a0_5 : Int) (a0_6 : Int) (a0_7 : Int) (a1 : Int) (r1 : Int) (r2 : Int) (r3 : Int) (r4 : Int) (r5 : Int) (r6 : Int) (r7 : Int) (r8 : Int) (r9 : Int) (w : World) (h : arrearsref03_Div.f a0_0 a0_1 a0_2 a0_3 a0_4 a0_5 a0_6 a0_7 a1 = some (r1, r2, r3, r4, r5, r6, r7, r8, r9)) :
    Calls Tryd.prog 24 #[.agg #[.int .u32 a0_0, .int .u32 a0_1, .int .u32 a0_2, .int .u32 a0_3, .int .u32 a0_4, .int .u32 a0_5, .int .u32 a0_6, .int .u32 a0_7], .int .u64 a1] w fun e w' => e = .returned (.tuple #[.agg #[.int .u32 r1, .int .u32 r2, .int .u32 r3, .int .u32 r4, .int .u32 r5, .int .u32 r6, .int .u32 r7, .int .u32 r8], .int .u64 r9]) ∧ Below w.heap.size w w' := by
  unfold arrearsref03_Div.f at h
  split at h
  · rename_i hb
    obtain ⟨h0, h1, h2, h3, h4, h5, h6, h7, h8⟩ := hb
    simp only [Option.some.injEq, Prod.mk.injEq] at h
    obtain ⟨rfl, rfl, rfl, rfl, rfl, rfl, rfl, rfl, rfl⟩ := h
    have hd := refdiv_walk (num8 a0_0 a0_1 a0_2 a0_3 a0_4 a0_5 a0_6 a0_7) a1.toNat (num8_lt _ _ _ _ _ _ _ _ h0 h1 h2 h3 h4 h5 h6 h7) (by omega) (by omega) w
    rw [num8_dg _ _ _ _ _ _ _ _ h0 h1 h2 h3 h4 h5 h6 h7, Int.toNat_of_nonneg (by omega)] at hd
    exact hd
  · exact absurd h (by simp)
end


end Go.Proofs.YtfpbibfoipbahaaDoor.PWideReckons
