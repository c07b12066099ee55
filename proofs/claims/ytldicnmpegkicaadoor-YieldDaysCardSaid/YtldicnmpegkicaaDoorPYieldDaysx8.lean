-- Printed by a wrapper of this session's round the kit's print.py; Lean checks it.
import Derived.Test.YtldicnmpegkicaaDoorPYieldDaysx0
import Derived.Test.YtldicnmpegkicaaDoorPYieldDaysx7
namespace Go.Proofs.YtldicnmpegkicaaDoor.PYieldDays
open Go.RowKit Go.Proofs.YtldicnmpegkicaaDoorW.PrintWords Go.Proofs.YtldicnmpegkicaaDoorW.PrintLast Go.Proofs.YtldicnmpegkicaaDoorW.PrintMore
attribute [local go_sem] max2_int min2_int max_two min_two max_three min_three max_four min_four   -- for this text's walks alone
set_option linter.unusedVariables false
set_option linter.unusedSimpArgs false

/-! ### arrearsref03_Div: function 28 -/
section
open Go.Proofs.YtldicnmpegkicaaDoor.M
def arrearsref03_Div.f (a0_0 a0_1 a0_2 a0_3 a0_4 a0_5 a0_6 a0_7 a1 : Int) : Option (Int × Int × Int × Int × Int × Int × Int × Int × Int) :=
 if (0 ≤ a0_0 ∧ a0_0 ≤ 65535) ∧ (0 ≤ a0_1 ∧ a0_1 ≤ 65535) ∧ (0 ≤ a0_2 ∧ a0_2 ≤ 65535) ∧ (0 ≤ a0_3 ∧ a0_3 ≤ 65535) ∧ (0 ≤ a0_4 ∧ a0_4 ≤ 65535) ∧ (0 ≤ a0_5 ∧ a0_5 ≤ 65535) ∧ (0 ≤ a0_6 ∧ a0_6 ≤ 65535) ∧ (0 ≤ a0_7 ∧ a0_7 ≤ 65535) ∧ (1 ≤ a1 ∧ a1 ≤ 18446744073709551615) then some (((dg (num8 a0_0 a0_1 a0_2 a0_3 a0_4 a0_5 a0_6 a0_7 / a1.toNat) 0 : Nat) : Int), ((dg (num8 a0_0 a0_1 a0_2 a0_3 a0_4 a0_5 a0_6 a0_7 / a1.toNat) 1 : Nat) : Int), ((dg (num8 a0_0 a0_1 a0_2 a0_3 a0_4 a0_5 a0_6 a0_7 / a1.toNat) 2 : Nat) : Int), ((dg (num8 a0_0 a0_1 a0_2 a0_3 a0_4 a0_5 a0_6 a0_7 / a1.toNat) 3 : Nat) : Int), ((dg (num8 a0_0 a0_1 a0_2 a0_3 a0_4 a0_5 a0_6 a0_7 / a1.toNat) 4 : Nat) : Int), ((dg (num8 a0_0 a0_1 a0_2 a0_3 a0_4 a0_5 a0_6 a0_7 / a1.toNat) 5 : Nat) : Int), ((dg (num8 a0_0 a0_1 a0_2 a0_3 a0_4 a0_5 a0_6 a0_7 / a1.toNat) 6 : Nat) : Int), ((dg (num8 a0_0 a0_1 a0_2 a0_3 a0_4 a0_5 a0_6 a0_7 / a1.toNat) 7 : Nat) : Int), ((num8 a0_0 a0_1 a0_2 a0_3 a0_4 a0_5 a0_6 a0_7 % a1.toNat : Nat) : Int)) else none
set_option maxHeartbeats 4000000 in
set_option maxRecDepth 100000 in
theorem divr11 (ops : Array Oper) (hops : Tryd.f28.body.bind (findR 11) = some (ops, true)) (Q : Exit → Act → World → Prop) (w : World) (gs k r : Nat) (ii : Int) (e1 : Int.tdiv ii 16 = (k : Nat)) (e2 : Int.tmod ii 16 = (r : Nat)) (D : Int) (ds : _) (t0 t1 t2 t3 t4 t5 t7 t9 t10 t11 t12 t13 t14 t15 t16 t17 t18 t19 t20 t21 t22 t23 t24 t25 t26 t27 t28 t29 t30 t31 t32 t33 t34 t35 t36 t37 t38 t39 t40 t41 t42 t43 t44 t45 t46 t47 t48 t49 : Value)
  (hQ : ∀ c a d v w, Q (.panic c) (Act.put a d v) w → Q (.panic c) a w) (hfz : w.frozen? ⟨gs, k, none⟩ = false) (hD : 0 ≤ D ∧ D ≤ 65535) (hk : k < 8) (hr : r < 16) (hs : w.cell? ⟨gs, k, none⟩ = some (.int .u32 D))
  (H : ∀ (u39 u40 u41 u42 u43 u44 u45 u46 u47 : Value), Q .normal { tmps := (List.toArray (t0 :: t1 :: t2 :: t3 :: t4 :: t5 :: Value.pointer (some ⟨gs, 0, none⟩) :: t7 :: Value.int IntKind.i64 ii :: t9 :: t10 :: t11 :: t12 :: t13 :: t14 :: t15 :: t16 :: t17 :: t18 :: t19 :: t20 :: t21 :: t22 :: t23 :: t24 :: t25 :: t26 :: t27 :: t28 :: t29 :: t30 :: t31 :: t32 :: t33 :: t34 :: t35 :: t36 :: t37 :: t38 :: u39 :: u40 :: u41 :: u42 :: u43 :: u44 :: u45 :: u46 :: u47 :: t48 :: t49 :: [])), defers := ds } (w.setCell ⟨gs, k, none⟩ (.int .u32 (bits BinOp.or IntKind.u32 D (2 ^ r)))).drew) :
  Code.wp Tryd.prog (.region 11 ops true) Q { tmps := (List.toArray (t0 :: t1 :: t2 :: t3 :: t4 :: t5 :: Value.pointer (some ⟨gs, 0, none⟩) :: t7 :: Value.int IntKind.i64 ii :: t9 :: t10 :: t11 :: t12 :: t13 :: t14 :: t15 :: t16 :: t17 :: t18 :: t19 :: t20 :: t21 :: t22 :: t23 :: t24 :: t25 :: t26 :: t27 :: t28 :: t29 :: t30 :: t31 :: t32 :: t33 :: t34 :: t35 :: t36 :: t37 :: t38 :: t39 :: t40 :: t41 :: t42 :: t43 :: t44 :: t45 :: t46 :: t47 :: t48 :: t49 :: [])), defers := ds } w := by
 have e5 : IntKind.u32.wrap (2 ^ r) = 2 ^ r := wrap_pow r hr
 have c1 : ((k : Int) < 8) = True := eq_true (by omega)
 have e6 : wrap64 (k : Int) = (k : Nat) := by unfold wrap64; omega
 have e7 : wrap64 (r : Int) = (r : Nat) := by unfold wrap64; omega
 simp [Tryd.f28, findR] at hops
 subst hops
 refine start_ (n := 10) (S := fun w' => w'.cell? ⟨gs, k, none⟩ = some (.int .u32 D)) (ds := [9]) #[false, false, false, false, false, false, false, false, false, false] (by kernel_rfl) rfl rfl hs (fun hHeld => ?_)
 refine pure_ (i := 0) (N := some 39) (v := ?_) (a' := ?_) #[true, false, false, false, false, false, false, false, false, false] rfl rfl (by kernel_rfl) (fun c a w h => hQ c _ _ _ w h) (Or.inl ⟨by rfl, ?_⟩) ?_ ?_
 rotate_left
 ·
  intro w'
  go_simp
  (try simp only [e1, e2, e5, e6, e7, c1, if_true, if_pos trivial])
  with_reducible rfl
 rotate_left
 ·
  simp only [Act.put, List.setIfInBounds_toArray, List.set_cons_zero, List.set_cons_succ, i64_w, i32_w]
  rfl
 refine pure_ (i := 1) (N := some 40) (v := ?_) (a' := ?_) #[true, true, false, false, false, false, false, false, false, false] rfl rfl (by kernel_rfl) (fun c a w h => hQ c _ _ _ w h) (Or.inl ⟨by rfl, ?_⟩) ?_ ?_
 rotate_left
 ·
  intro w'
  go_simp
  (try simp only [e1, e2, e5, e6, e7, c1, if_true, if_pos trivial])
  with_reducible rfl
 rotate_left
 ·
  simp only [Act.put, List.setIfInBounds_toArray, List.set_cons_zero, List.set_cons_succ, i64_w, i32_w]
  rfl
 refine pure_ (i := 2) (N := some 41) (v := ?_) (a' := ?_) #[true, true, true, false, false, false, false, false, false, false] rfl rfl (by kernel_rfl) (fun c a w h => hQ c _ _ _ w h) (Or.inl ⟨by rfl, ?_⟩) ?_ ?_
 rotate_left
 ·
  intro w'
  go_simp
  (try simp only [e1, e2, e5, e6, e7, c1, if_true, if_pos trivial])
  with_reducible rfl
 rotate_left
 ·
  simp only [Act.put, List.setIfInBounds_toArray, List.set_cons_zero, List.set_cons_succ, i64_w, i32_w]
  rfl
 refine pure_ (i := 4) (N := some 43) (v := ?_) (a' := ?_) #[true, true, true, false, true, false, false, false, false, false] rfl rfl (by kernel_rfl) (fun c a w h => hQ c _ _ _ w h) (Or.inl ⟨by rfl, ?_⟩) ?_ ?_
 rotate_left
 ·
  intro w'
  go_simp
  (try simp only [e1, e2, e5, e6, e7, c1, if_true, if_pos trivial])
  with_reducible rfl
 rotate_left
 ·
  simp only [Act.put, List.setIfInBounds_toArray, List.set_cons_zero, List.set_cons_succ, i64_w, i32_w]
  rfl
 refine pure_ (i := 5) (N := some 44) (v := ?_) (a' := ?_) #[true, true, true, false, true, true, false, false, false, false] rfl rfl (by kernel_rfl) (fun c a w h => hQ c _ _ _ w h) (Or.inl ⟨by rfl, ?_⟩) ?_ ?_
 rotate_left
 ·
  intro w'
  go_simp
  (try simp only [e1, e2, e5, e6, e7, c1, if_true, if_pos trivial])
  with_reducible rfl
 rotate_left
 ·
  simp only [Act.put, List.setIfInBounds_toArray, List.set_cons_zero, List.set_cons_succ, i64_w, i32_w]
  rfl
 refine pure_ (i := 6) (N := some 45) (v := ?_) (a' := ?_) #[true, true, true, false, true, true, true, false, false, false] rfl rfl (by kernel_rfl) (fun c a w h => hQ c _ _ _ w h) (Or.inl ⟨by rfl, ?_⟩) ?_ ?_
 rotate_left
 ·
  intro w'
  go_simp
  (try simp only [e1, e2, e5, e6, e7, c1, if_true, if_pos trivial])
  with_reducible rfl
 rotate_left
 ·
  simp only [Act.put, List.setIfInBounds_toArray, List.set_cons_zero, List.set_cons_succ, i64_w, i32_w]
  rfl
 refine take_ (i := 3) (N := some 42) (v := ?_) (a' := ?_) #[true, true, true, true, true, true, true, false, false, false] rfl rfl (by kernel_rfl) (fun c a w h => hQ c _ _ _ w h) (Or.inl ⟨by rfl, ?_⟩) hHeld ?_ ?_
 rotate_left
 ·
  intro w' s0
  go_simp
  (try simp only [s0, e1, e2, e5, e6, e7, c1, if_true, if_pos trivial])
  with_reducible rfl
 rotate_left
 ·
  simp only [Act.put, List.setIfInBounds_toArray, List.set_cons_zero, List.set_cons_succ, i64_w, i32_w]
  rfl
 refine pure_ (i := 7) (N := some 46) (v := ?_) (a' := ?_) #[true, true, true, true, true, true, true, true, false, false] rfl rfl (by kernel_rfl) (fun c a w h => hQ c _ _ _ w h) (Or.inl ⟨by rfl, ?_⟩) ?_ ?_
 rotate_left
 ·
  intro w'
  go_simp
  (try simp only [e1, e2, e5, e6, e7, c1, if_true, if_pos trivial])
  with_reducible rfl
 rotate_left
 ·
  simp only [Act.put, List.setIfInBounds_toArray, List.set_cons_zero, List.set_cons_succ, i64_w, i32_w]
  rfl
 refine pure_ (i := 8) (N := some 47) (v := ?_) (a' := ?_) #[true, true, true, true, true, true, true, true, true, false] rfl rfl (by kernel_rfl) (fun c a w h => hQ c _ _ _ w h) (Or.inl ⟨by rfl, ?_⟩) ?_ ?_
 rotate_left
 ·
  intro w'
  go_simp
  (try simp only [e1, e2, e5, e6, e7, c1, if_true, if_pos trivial])
  with_reducible rfl
 rotate_left
 ·
  simp only [Act.put, List.setIfInBounds_toArray, List.set_cons_zero, List.set_cons_succ, i64_w, i32_w]
  rfl
 refine last_ (i := 9) (N := none) #[true, true, true, true, true, true, true, true, true, true] rfl rfl (by kernel_rfl) (by decide) (fun K hK => ?_)
 refine skip_ (w1 := ?_) (by rfl) rfl ?_ ?_
 rotate_left
 ·
  go_simp
  (try simp only [hfz, if_false, e1, e2, e5, e6, e7])
  rfl
 refine hK.out _ _ ?_
 clear hK K
 refine done_ (by kernel_rfl) ?_
 exact H _ _ _ _ _ _ _ _ _
set_option maxHeartbeats 4000000 in
set_option maxRecDepth 100000 in
theorem refdiv_walk (N n : Nat) (hN : N < 2 ^ 128) (hn : 0 < n) (hn2 : n < 2 ^ 64) (w : World) :
  Calls Tryd.prog 28 #[.agg (cells8 (dg N)), .int .u64 n] w fun e w' => e = .returned (.tuple #[.agg (cells8 (dg (N / n))), .int .u64 (N % n : Nat)]) ∧ Below w.heap.size w w' := by
 go_enter Tryd.func28, Tryd.ntmps28
 go_upto_region 4 with (first | ((with_reducible refine gate_dst (N := 2) rfl ?_); (try (refine gate_guard (by rfl) ?_; dsimp only)); refine box_event ?hg (N := 2) ?hd (cs := cells8 (dg N)) (t := 61) ?hr ?_; (case hd => rfl); (case hg => rfl); (case hr => first | (go_simp; done) | (go_simp; rfl)); intro gb2 hg w2 hbox hb; have BK2 := Aside0.mk hbox; have HB := Aside0.mk hb; have GE2 := Aside0.mk (Nat.le_of_eq hg.symm : w.heap.size ≤ gb2); clear hbox hb hg) | ((with_reducible refine gate_dst (N := 4) rfl ?_); (try (refine gate_guard (by rfl) ?_; dsimp only)); refine box_event ?hg (N := 4) ?hd (cs := #[.int .u32 0, .int .u32 0, .int .u32 0, .int .u32 0, .int .u32 0, .int .u32 0, .int .u32 0, .int .u32 0]) (t := 61) ?hr ?_; (case hd => rfl); (case hg => rfl); (case hr => first | (go_simp; done) | (go_simp; rfl)); intro gb4 hg w4 hbox hb; have n2_ := Aside0.mk (blk_below BK2.out hb); have NB2_4 := Aside0.mk (by rw [hg]; exact Nat.ne_of_lt (blk_lt BK2.out) : gb2 ≠ gb4); have m_ := Aside0.mk (below_step HB.out hb); have GE4 := Aside0.mk (Nat.le_trans (below_size HB.out) (Nat.le_of_eq hg.symm) : w.heap.size ≤ gb4); clear HB; have HB := m_; clear m_; clear BK2; have BK2 := n2_; clear n2_; have BK4 := Aside0.mk hbox; clear hbox hb hg) | ((with_reducible refine gate_dst (N := 6) rfl ?_); (try (refine gate_guard (by rfl) ?_; dsimp only)); refine box_event ?hg (N := 6) ?hd (cs := #[.int .u32 0, .int .u32 0, .int .u32 0, .int .u32 0, .int .u32 0, .int .u32 0, .int .u32 0, .int .u32 0]) (t := 61) ?hr ?_; (case hd => rfl); (case hg => rfl); (case hr => first | (go_simp; done) | (go_simp; rfl)); intro gb6 hg w6 hbox hb; have n2_ := Aside0.mk (blk_below BK2.out hb); have NB2_6 := Aside0.mk (by rw [hg]; exact Nat.ne_of_lt (blk_lt BK2.out) : gb2 ≠ gb6); have n4_ := Aside0.mk (blk_below BK4.out hb); have NB4_6 := Aside0.mk (by rw [hg]; exact Nat.ne_of_lt (blk_lt BK4.out) : gb4 ≠ gb6); have m_ := Aside0.mk (below_step HB.out hb); have GE6 := Aside0.mk (Nat.le_trans (below_size HB.out) (Nat.le_of_eq hg.symm) : w.heap.size ≤ gb6); clear HB; have HB := m_; clear m_; clear BK2; have BK2 := n2_; clear n2_; clear BK4; have BK4 := n4_; clear n4_; have BK6 := Aside0.mk hbox; clear hbox hb hg))
 trace "R4"
 refine wp_loop_rounds 129 ?_
 refine rounds_inv (I := fun k a W => k ≤ 128 ∧ ∃ (t3 t5 t9 t10 t11 t12 t13 t14 t15 t16 t17 t18 t19 t20 t21 t22 t23 t24 t25 t26 t27 t28 t29 t30 t31 t32 t33 t34 t35 t36 t37 t38 t39 t40 t41 t42 t43 t44 t45 t46 t47 t48 t49 : Value) (q l : Nat), N / 2 ^ k = q * n + l ∧ l < n ∧ a = { tmps := (List.toArray (Value.agg (cells8 (dg N)) :: Value.int IntKind.u64 n :: Value.pointer (some ⟨gb2, 0, none⟩) :: t3 :: Value.pointer (some ⟨gb4, 0, none⟩) :: t5 :: Value.pointer (some ⟨gb6, 0, none⟩) :: Value.int IntKind.u64 (l : Nat) :: Value.int IntKind.i64 ((k : Int) - 1) :: t9 :: t10 :: t11 :: t12 :: t13 :: t14 :: t15 :: t16 :: t17 :: t18 :: t19 :: t20 :: t21 :: t22 :: t23 :: t24 :: t25 :: t26 :: t27 :: t28 :: t29 :: t30 :: t31 :: t32 :: t33 :: t34 :: t35 :: t36 :: t37 :: t38 :: t39 :: t40 :: t41 :: t42 :: t43 :: t44 :: t45 :: t46 :: t47 :: t48 :: t49 :: [])), defers := [] } ∧ Below w.heap.size w W ∧ W.heap[gb2]? = some (.cells (cells8 (dg N)) 61 (0, 0)) ∧ W.heap[gb4]? = some (.cells (cells8 (fun _ => 0)) 61 (0, 0)) ∧ W.heap[gb6]? = some (.cells (cells8 (dg (2 ^ k * q))) 61 (0, 0))) ?step 128 _ _ ?init
 case init =>
  refine ⟨Nat.le_refl _, _, _, _, _, _, _, _, _, _, _, _, _, _, _, _, _, _, _, _, _, _, _, _, _, _, _, _, _, _, _, _, _, _, _, _, _, _, _, _, _, _, _, _, 0, 0, ?_, hn, rfl, HB.out, BK2.out, BK4.out, ?_⟩
  ·
   rw [Nat.div_eq_of_lt hN, Nat.zero_mul]
  ·
   rw [Nat.mul_zero, show dg 0 = fun _ => 0 from by funext k; simp [dg]]; exact BK6.out
 case step =>
  clear BK2 BK4 BK6 HB
  rintro k a W ⟨hk, t3, t5, t9, t10, t11, t12, t13, t14, t15, t16, t17, t18, t19, t20, t21, t22, t23, t24, t25, t26, t27, t28, t29, t30, t31, t32, t33, t34, t35, t36, t37, t38, t39, t40, t41, t42, t43, t44, t45, t46, t47, t48, t49, q, l, hq, hl, rfl, hB, b2, b4, b6⟩ K hK
  rcases k with _ | m
  ·
   rw [show (((0 : Nat) : Int) - 1) = -1 from rfl]
   have de := div_end N n q l (by simpa using hq) hl
   have HBL := Aside0.mk hB
   obtain ⟨L, hL⟩ : ∃ z : Int, z = (l : Nat) := ⟨_, rfl⟩
   obtain ⟨M, hM⟩ : ∃ z : Int, z = (n : Nat) := ⟨_, rfl⟩
   obtain ⟨E, hE⟩ : ∃ E : Nat → Int, E = fun k => ((dg (2 ^ 0 * q) k : Nat) : Int) := ⟨_, rfl⟩
   rw [← hL, ← hM]
   replace b6 : W.heap[gb6]? = some (.cells #[.int .u32 (E 0), .int .u32 (E 1), .int .u32 (E 2), .int .u32 (E 3), .int .u32 (E 4), .int .u32 (E 5), .int .u32 (E 6), .int .u32 (E 7)] 61 (0, 0)) := by rw [hE]; exact b6
   replace b4 : W.heap[gb4]? = some (.cells #[.int .u32 0, .int .u32 0, .int .u32 0, .int .u32 0, .int .u32 0, .int .u32 0, .int .u32 0, .int .u32 0] 61 (0, 0)) := b4
   have hc4_0 : W.cell? ⟨gb4, 0, none⟩ = some (.int .u32 0) := (blk_cell b4 0).trans rfl
   have hf4_0 := blk_frozen b4 0
   have hc4_1 : W.cell? ⟨gb4, 1, none⟩ = some (.int .u32 0) := (blk_cell b4 1).trans rfl
   have hf4_1 := blk_frozen b4 1
   have hc4_2 : W.cell? ⟨gb4, 2, none⟩ = some (.int .u32 0) := (blk_cell b4 2).trans rfl
   have hf4_2 := blk_frozen b4 2
   have hc4_3 : W.cell? ⟨gb4, 3, none⟩ = some (.int .u32 0) := (blk_cell b4 3).trans rfl
   have hf4_3 := blk_frozen b4 3
   have hc4_4 : W.cell? ⟨gb4, 4, none⟩ = some (.int .u32 0) := (blk_cell b4 4).trans rfl
   have hf4_4 := blk_frozen b4 4
   have hc4_5 : W.cell? ⟨gb4, 5, none⟩ = some (.int .u32 0) := (blk_cell b4 5).trans rfl
   have hf4_5 := blk_frozen b4 5
   have hc4_6 : W.cell? ⟨gb4, 6, none⟩ = some (.int .u32 0) := (blk_cell b4 6).trans rfl
   have hf4_6 := blk_frozen b4 6
   have hc4_7 : W.cell? ⟨gb4, 7, none⟩ = some (.int .u32 0) := (blk_cell b4 7).trans rfl
   have hf4_7 := blk_frozen b4 7
   have hc6_0 : W.cell? ⟨gb6, 0, none⟩ = some (.int .u32 (E 0)) := (blk_cell b6 0).trans rfl
   have hf6_0 := blk_frozen b6 0
   have hc6_1 : W.cell? ⟨gb6, 1, none⟩ = some (.int .u32 (E 1)) := (blk_cell b6 1).trans rfl
   have hf6_1 := blk_frozen b6 1
   have hc6_2 : W.cell? ⟨gb6, 2, none⟩ = some (.int .u32 (E 2)) := (blk_cell b6 2).trans rfl
   have hf6_2 := blk_frozen b6 2
   have hc6_3 : W.cell? ⟨gb6, 3, none⟩ = some (.int .u32 (E 3)) := (blk_cell b6 3).trans rfl
   have hf6_3 := blk_frozen b6 3
   have hc6_4 : W.cell? ⟨gb6, 4, none⟩ = some (.int .u32 (E 4)) := (blk_cell b6 4).trans rfl
   have hf6_4 := blk_frozen b6 4
   have hc6_5 : W.cell? ⟨gb6, 5, none⟩ = some (.int .u32 (E 5)) := (blk_cell b6 5).trans rfl
   have hf6_5 := blk_frozen b6 5
   have hc6_6 : W.cell? ⟨gb6, 6, none⟩ = some (.int .u32 (E 6)) := (blk_cell b6 6).trans rfl
   have hf6_6 := blk_frozen b6 6
   have hc6_7 : W.cell? ⟨gb6, 7, none⟩ = some (.int .u32 (E 7)) := (blk_cell b6 7).trans rfl
   have hf6_7 := blk_frozen b6 7
   have hne := Ne.symm NB4_6.out
   have hne' := NB4_6.out
   have HLL := Aside0.mk hL
   have HMM := Aside0.mk hM
   have HE := Aside0.mk hE
   clear hL hM hE hB hq hl hN hn hn2 b2
   go_wp2
   refine bodyPost_ret (results_ct (p := 4) (u := 5) (ty := 61) rfl _ _ gb4 61 #[.int .u32 (E 0), .int .u32 (E 1), .int .u32 (E 2), .int .u32 (E 3), .int .u32 (E 4), .int .u32 (E 5), .int .u32 (E 6), .int .u32 (E 7)] (0, 0) _ rfl ?hg Tryd.underlying61 rfl (by kernel_rfl)) rfl ⟨?hv, ?hbl⟩
   case hg =>
    refine blk_put (cs := #[.int .u32 (E 0), .int .u32 (E 1), .int .u32 (E 2), .int .u32 (E 3), .int .u32 (E 4), .int .u32 (E 5), .int .u32 (E 6), .int .u32 0]) ?_ 7 _ rfl
    refine blk_put (cs := #[.int .u32 (E 0), .int .u32 (E 1), .int .u32 (E 2), .int .u32 (E 3), .int .u32 (E 4), .int .u32 (E 5), .int .u32 0, .int .u32 0]) ?_ 6 _ rfl
    refine blk_put (cs := #[.int .u32 (E 0), .int .u32 (E 1), .int .u32 (E 2), .int .u32 (E 3), .int .u32 (E 4), .int .u32 0, .int .u32 0, .int .u32 0]) ?_ 5 _ rfl
    refine blk_put (cs := #[.int .u32 (E 0), .int .u32 (E 1), .int .u32 (E 2), .int .u32 (E 3), .int .u32 0, .int .u32 0, .int .u32 0, .int .u32 0]) ?_ 4 _ rfl
    refine blk_put (cs := #[.int .u32 (E 0), .int .u32 (E 1), .int .u32 (E 2), .int .u32 0, .int .u32 0, .int .u32 0, .int .u32 0, .int .u32 0]) ?_ 3 _ rfl
    refine blk_put (cs := #[.int .u32 (E 0), .int .u32 (E 1), .int .u32 0, .int .u32 0, .int .u32 0, .int .u32 0, .int .u32 0, .int .u32 0]) ?_ 2 _ rfl
    refine blk_put (cs := #[.int .u32 (E 0), .int .u32 0, .int .u32 0, .int .u32 0, .int .u32 0, .int .u32 0, .int .u32 0, .int .u32 0]) ?_ 1 _ rfl
    refine blk_put (cs := #[.int .u32 0, .int .u32 0, .int .u32 0, .int .u32 0, .int .u32 0, .int .u32 0, .int .u32 0, .int .u32 0]) ?_ 0 _ rfl
    exact b4
   case hbl =>
    refine below_set ?_ GE4.out
    refine below_set ?_ GE4.out
    refine below_set ?_ GE4.out
    refine below_set ?_ GE4.out
    refine below_set ?_ GE4.out
    refine below_set ?_ GE4.out
    refine below_set ?_ GE4.out
    refine below_set ?_ GE4.out
    exact HBL.out
   case hv => rw [HLL.out, HE.out, ← de.1, ← de.2]; simp only [Nat.pow_zero, Nat.one_mul]; rfl
  ·
   rw [show (((m + 1 : Nat) : Int) - 1) = (m : Int) by omega]
   have hm : m < 128 := by omega
   have hm1 : 0 ≤ (m : Int) ∧ (m : Int) ≤ 127 := by omega
   have HBL := Aside0.mk hB
   clear hB
   have c2 : W.cell? ⟨gb2, m / 16, none⟩ = some (.int .u32 (dg N (m / 16) : Nat)) := (blk_cell b2 (m / 16)).trans (cells8_get _ _ (by omega))
   have c6 : W.cell? ⟨gb6, m / 16, none⟩ = some (.int .u32 (dg (2 ^ (m + 1) * q) (m / 16) : Nat)) := (blk_cell b6 (m / 16)).trans (cells8_get _ _ (by omega))
   have f6 := blk_frozen b6 (m / 16)
   have d2 := dg_lt N (m / 16)
   have d6 := dg_lt (2 ^ (m + 1) * q) (m / 16)
   obtain ⟨D2, hD2⟩ : ∃ z : Int, z = (dg N (m / 16) : Nat) := ⟨_, rfl⟩
   obtain ⟨D6, hD6⟩ : ∃ z : Int, z = (dg (2 ^ (m + 1) * q) (m / 16) : Nat) := ⟨_, rfl⟩
   obtain ⟨L, hL⟩ : ∃ z : Int, z = (l : Nat) := ⟨_, rfl⟩
   obtain ⟨M, hM⟩ : ∃ z : Int, z = (n : Nat) := ⟨_, rfl⟩
   rw [← hD2] at c2
   rw [← hD6] at c6
   rw [← hL, ← hM]
   have hd2 : 0 ≤ D2 ∧ D2 ≤ 65535 := by omega
   have hd6 : 0 ≤ D6 ∧ D6 ≤ 65535 := by omega
   have hl1 : 0 ≤ L ∧ L ≤ 18446744073709551615 := by omega
   have hn1 : 1 ≤ M ∧ M ≤ 18446744073709551615 := by omega
   have HD2 := Aside0.mk hD2
   have HD6 := Aside0.mk hD6
   have HQ := Aside0.mk hq
   have HNN := Aside0.mk hN
   have HL := Aside0.mk hL
   have HM := Aside0.mk hM
   have Hn := Aside0.mk hn
   have Hn2 := Aside0.mk hn2
   have Hl := Aside0.mk hl
   have B2 := Aside0.mk b2
   have B4 := Aside0.mk b4
   have B6 := Aside0.mk b6
   clear hD2 hD6 hq hN b2 b4 b6 d2 d6 hL hM hn hn2 hl
   have hD2 : 0 ≤ D2 / 2 ^ (m % 16) := Int.ediv_nonneg hd2.1 (Int.le_of_lt (Int.pow_pos (by decide)))
   go_wp2
   ·
    rename_i h1 h2
    have hb : (IntKind.u64.wrap (D2 / 2 ^ (m % 16))).tmod 2 = ((N / 2 ^ m % 2 : Nat) : Int) := bit_eq N m D2 HD2.out
    have hb2 : N / 2 ^ m % 2 < 2 := Nat.mod_lt _ (by decide)
    have hll := HL.out
    have hnn := HM.out
    have hn2 := Hn2.out
    have ho : bits .or .u64 (L * 2) ((IntKind.u64.wrap (D2 / 2 ^ (m % 16))).tmod 2) = ((2 * l + N / 2 ^ m % 2 : Nat) : Int) := by rw [hb, hll]; exact or_low l _ (by omega) hb2
    rw [ho] at h2
    refine divr11 _ ?hops _ _ gb6 (m / 16) (m % 16) (m : Int) ?e1 ?e2 D6 _ _ _ _ _ _ _ _ _ _ _ _ _ _ _ _ _ _ _ _ _ _ _ _ _ _ _ _ _ _ _ _ _ _ _ _ _ _ _ _ _ _ _ _ _ _ _ _ _ ?hQ ?hfz ?hD ?hk ?hr ?hs ?H
    case hops => rfl
    case hQ => exact fun _ _ d _ _ h => by cases d <;> exact h
    case hfz => exact f6
    case hD => exact hd6
    case hk => omega
    case hr => omega
    case hs => exact c6
    case e1 => rw [Int.tdiv_eq_ediv_of_nonneg (by omega)]; omega
    case e2 => rw [Int.tmod_eq_emod_of_nonneg (by omega)]; omega
    intros
    go_wp2
    have hx : IntKind.u64.wrap (bits BinOp.or IntKind.u64 (L * 2) ((IntKind.u64.wrap (D2 / 2 ^ (m % 16))).tmod 2) - M) = ((2 * l + N / 2 ^ m % 2 - n : Nat) : Int) := by
     rw [ho, u64w]; have := Hl.out; omega
    rw [hx, hnn]
    have nx := next_ge N n m q l HQ.out Hl.out (by omega)
    exact hK m _ _ rfl ⟨by omega, _, _, _, _, _, _, _, _, _, _, _, _, _, _, _, _, _, _, _, _, _, _, _, _, _, _, _, _, _, _, _, _, _, _, _, _, _, _, _, _, _, _, _, 2 * q + 1, 2 * l + N / 2 ^ m % 2 - n, nx.1, nx.2, rfl, below_drew1 (below_set HBL.out GE6.out), blk_drew (blk_far B2.out NB2_6.out _), blk_drew (blk_far B4.out NB4_6.out _), blk_drew (blk_put B6.out (m / 16) _ (cells8_set _ _ _ (by omega) _ (or_dig q m D6 HD6.out) (fun k hk => dg_ne2 q m k hk)))⟩

   ·
    rename_i h1 h2
    have hb : (IntKind.u64.wrap (D2 / 2 ^ (m % 16))).tmod 2 = ((N / 2 ^ m % 2 : Nat) : Int) := bit_eq N m D2 HD2.out
    have hb2 : N / 2 ^ m % 2 < 2 := Nat.mod_lt _ (by decide)
    have hll := HL.out
    have hnn := HM.out
    have hn2 := Hn2.out
    have ho : bits .or .u64 (L * 2) ((IntKind.u64.wrap (D2 / 2 ^ (m % 16))).tmod 2) = ((2 * l + N / 2 ^ m % 2 : Nat) : Int) := by rw [hb, hll]; exact or_low l _ (by omega) hb2
    rw [ho] at h2
    rw [ho, hnn]
    have nx := next_lt N n m q l HQ.out Hl.out (by omega)
    exact hK m _ _ rfl ⟨by omega, _, _, _, _, _, _, _, _, _, _, _, _, _, _, _, _, _, _, _, _, _, _, _, _, _, _, _, _, _, _, _, _, _, _, _, _, _, _, _, _, _, _, _, 2 * q, 2 * l + N / 2 ^ m % 2, nx.1, nx.2, rfl, HBL.out, B2.out, B4.out, by rw [show 2 ^ m * (2 * q) = 2 ^ (m + 1) * q by rw [Nat.pow_succ, Nat.mul_assoc]]; exact B6.out⟩
   ·
    rename_i h1
    have hb : (IntKind.u64.wrap (D2 / 2 ^ (m % 16))).tmod 2 = ((N / 2 ^ m % 2 : Nat) : Int) := bit_eq N m D2 HD2.out
    have hb2 : N / 2 ^ m % 2 < 2 := Nat.mod_lt _ (by decide)
    have hll := HL.out
    have hnn := HM.out
    have hn2 := Hn2.out
    have ho : bits .or .u64 (IntKind.u64.wrap (L * 2)) ((IntKind.u64.wrap (D2 / 2 ^ (m % 16))).tmod 2) = ((2 * l + N / 2 ^ m % 2 : Nat) : Int) - 18446744073709551616 := by rw [hb, hll]; exact or_top l _ (by omega) (by omega) hb2
    refine divr11 _ ?hopsx _ _ gb6 (m / 16) (m % 16) (m : Int) ?e1x ?e2x D6 _ _ _ _ _ _ _ _ _ _ _ _ _ _ _ _ _ _ _ _ _ _ _ _ _ _ _ _ _ _ _ _ _ _ _ _ _ _ _ _ _ _ _ _ _ _ _ _ _ ?hQx ?hfzx ?hDx ?hkx ?hrx ?hsx ?Hx
    case hopsx => rfl
    case hQx => exact fun _ _ d _ _ h => by cases d <;> exact h
    case hfzx => exact f6
    case hDx => exact hd6
    case hkx => omega
    case hrx => omega
    case hsx => exact c6
    case e1x => rw [Int.tdiv_eq_ediv_of_nonneg (by omega)]; omega
    case e2x => rw [Int.tmod_eq_emod_of_nonneg (by omega)]; omega
    intros
    go_wp2
    trace_state
    have hx : IntKind.u64.wrap (bits BinOp.or IntKind.u64 (IntKind.u64.wrap (L * 2)) ((IntKind.u64.wrap (D2 / 2 ^ (m % 16))).tmod 2) - M) = ((2 * l + N / 2 ^ m % 2 - n : Nat) : Int) := by
     rw [ho, u64w]; have := Hl.out; omega
    rw [hx, hnn]
    have nx := next_ge N n m q l HQ.out Hl.out (by omega)
    exact hK m _ _ rfl ⟨by omega, _, _, _, _, _, _, _, _, _, _, _, _, _, _, _, _, _, _, _, _, _, _, _, _, _, _, _, _, _, _, _, _, _, _, _, _, _, _, _, _, _, _, _, 2 * q + 1, 2 * l + N / 2 ^ m % 2 - n, nx.1, nx.2, rfl, below_drew1 (below_set HBL.out GE6.out), blk_drew (blk_far B2.out NB2_6.out _), blk_drew (blk_far B4.out NB4_6.out _), blk_drew (blk_put B6.out (m / 16) _ (cells8_set _ _ _ (by omega) _ (or_dig q m D6 HD6.out) (fun k hk => dg_ne2 q m k hk)))⟩

theorem arrearsref03_Div.calls (a0_0 : Int) (a0_1 : Int) (a0_2 : Int) (a0_3 : Int) (a0_4 : Int) (a0_5 : Int) (a0_6 : Int) (a0_7 : Int) (a1 : Int) (r1 : Int) (r2 : Int) (r3 : Int) (r4 : Int) (r5 : Int) (r6 : Int) (r7 : Int) (r8 : Int) (r9 : Int) (w : World) (h : arrearsref03_Div.f a0_0 a0_1 a0_2 a0_3 a0_4 a0_5 a0_6 a0_7 a1 = some (r1, r2, r3, r4, r5, r6, r7, r8, r9)) :
  Calls Tryd.prog 28 #[.agg #[.int .u32 a0_0, .int .u32 a0_1, .int .u32 a0_2, .int .u32 a0_3, .int .u32 a0_4, .int .u32 a0_5, .int .u32 a0_6, .int .u32 a0_7], .int .u64 a1] w fun e w' => e = .returned (.tuple #[.agg #[.int .u32 r1, .int .u32 r2, .int .u32 r3, .int .u32 r4, .int .u32 r5, .int .u32 r6, .int .u32 r7, .int .u32 r8], .int .u64 r9]) ∧ Below w.heap.size w w' := by
 unfold arrearsref03_Div.f at h
 split at h
 ·
  rename_i hb
  obtain ⟨h0, h1, h2, h3, h4, h5, h6, h7, h8⟩ := hb
  simp only [Option.some.injEq, Prod.mk.injEq] at h
  obtain ⟨rfl, rfl, rfl, rfl, rfl, rfl, rfl, rfl, rfl⟩ := h
  have hd := refdiv_walk (num8 a0_0 a0_1 a0_2 a0_3 a0_4 a0_5 a0_6 a0_7) a1.toNat (num8_lt _ _ _ _ _ _ _ _ h0 h1 h2 h3 h4 h5 h6 h7) (by omega) (by omega) w
  rw [num8_dg _ _ _ _ _ _ _ _ h0 h1 h2 h3 h4 h5 h6 h7, Int.toNat_of_nonneg (by omega)] at hd
  exact hd
 ·
  exact absurd h (by simp)
end


/-! ### arrearsref03_Word: function 29 -/
def arrearsref03_Word.f (a0_0 : Int) (a0_1 : Int) (a0_2 : Int) (a0_3 : Int) (a0_4 : Int) (a0_5 : Int) (a0_6 : Int) (a0_7 : Int) (a1 : Bool) : Option (Int) :=
 if (0 ≤ a0_0 ∧ a0_0 ≤ 65535) ∧ (0 ≤ a0_1 ∧ a0_1 ≤ 65535) ∧ (0 ≤ a0_2 ∧ a0_2 ≤ 65535) ∧ (0 ≤ a0_3 ∧ a0_3 ≤ 65535) ∧ (0 ≤ a0_4 ∧ a0_4 ≤ 65535) ∧ (0 ≤ a0_5 ∧ a0_5 ≤ 65535) ∧ (0 ≤ a0_6 ∧ a0_6 ≤ 65535) ∧ (0 ≤ a0_7 ∧ a0_7 ≤ 65535) then some (if a1 = true then ((a0_7 * 65536 + a0_6) * 65536 + a0_5) * 65536 + a0_4 else ((a0_3 * 65536 + a0_2) * 65536 + a0_1) * 65536 + a0_0) else none
set_option maxHeartbeats 4000000 in
theorem word_low (x0 x1 x2 x3 x4 x5 x6 x7 : Int) (h0 : 0 ≤ x0 ∧ x0 ≤ 65535) (h1 : 0 ≤ x1 ∧ x1 ≤ 65535) (h2 : 0 ≤ x2 ∧ x2 ≤ 65535) (h3 : 0 ≤ x3 ∧ x3 ≤ 65535) (h4 : 0 ≤ x4 ∧ x4 ≤ 65535) (h5 : 0 ≤ x5 ∧ x5 ≤ 65535) (h6 : 0 ≤ x6 ∧ x6 ≤ 65535) (h7 : 0 ≤ x7 ∧ x7 ≤ 65535) (w : World) :
  Calls Tryd.prog 29 #[.agg #[.int .u32 x0, .int .u32 x1, .int .u32 x2, .int .u32 x3, .int .u32 x4, .int .u32 x5, .int .u32 x6, .int .u32 x7], .bool false] w fun e w' => e = .returned (.int .u64 (((x3 * 65536 + x2) * 65536 + x1) * 65536 + x0)) ∧ Below w.heap.size w w' := by
 go_enter Tryd.func29, Tryd.ntmps29
 go_wp2_with (first | ((with_reducible refine gate_dst (N := 2) rfl ?_); (try (refine gate_guard (by rfl) ?_; dsimp only)); refine box_event ?hg (N := 2) ?hd (cs := #[.int .u32 x0, .int .u32 x1, .int .u32 x2, .int .u32 x3, .int .u32 x4, .int .u32 x5, .int .u32 x6, .int .u32 x7]) (t := 61) ?hr ?_; (case hd => rfl); (case hg => rfl); (case hr => first | (go_simp; done) | (go_simp; rfl)); intro gb2 hg w2 hbox hb; have BK2 := Aside0.mk hbox; have HB := Aside0.mk hb; clear hbox hb hg))
 have hc0 : w2.cell? ⟨gb2, 0, none⟩ = some (.int .u32 x0) := (blk_cell BK2.out 0).trans rfl
 have hf0 := blk_frozen BK2.out 0
 have hc1 : w2.cell? ⟨gb2, 1, none⟩ = some (.int .u32 x1) := (blk_cell BK2.out 1).trans rfl
 have hf1 := blk_frozen BK2.out 1
 have hc2 : w2.cell? ⟨gb2, 2, none⟩ = some (.int .u32 x2) := (blk_cell BK2.out 2).trans rfl
 have hf2 := blk_frozen BK2.out 2
 have hc3 : w2.cell? ⟨gb2, 3, none⟩ = some (.int .u32 x3) := (blk_cell BK2.out 3).trans rfl
 have hf3 := blk_frozen BK2.out 3
 have hc4 : w2.cell? ⟨gb2, 4, none⟩ = some (.int .u32 x4) := (blk_cell BK2.out 4).trans rfl
 have hf4 := blk_frozen BK2.out 4
 have hc5 : w2.cell? ⟨gb2, 5, none⟩ = some (.int .u32 x5) := (blk_cell BK2.out 5).trans rfl
 have hf5 := blk_frozen BK2.out 5
 have hc6 : w2.cell? ⟨gb2, 6, none⟩ = some (.int .u32 x6) := (blk_cell BK2.out 6).trans rfl
 have hf6 := blk_frozen BK2.out 6
 have hc7 : w2.cell? ⟨gb2, 7, none⟩ = some (.int .u32 x7) := (blk_cell BK2.out 7).trans rfl
 have hf7 := blk_frozen BK2.out 7
 refine wp_loop_rounds 5 ?_
 rw [rounds_succ]
 go_wp2
 rw [rounds_succ]
 go_wp2
 rw [rounds_succ]
 go_wp2
 rw [rounds_succ]
 go_wp2
 rw [rounds_succ]
 go_wp2
 refine bodyPost_ret (v := .int .u64 (((x3 * 65536 + x2) * 65536 + x1) * 65536 + x0)) (results_single (r := .tmp 4) rfl (.tmp .nil)) rfl ⟨rfl, ?_⟩
 exact HB.out
set_option maxHeartbeats 4000000 in
theorem word_high (x0 x1 x2 x3 x4 x5 x6 x7 : Int) (h0 : 0 ≤ x0 ∧ x0 ≤ 65535) (h1 : 0 ≤ x1 ∧ x1 ≤ 65535) (h2 : 0 ≤ x2 ∧ x2 ≤ 65535) (h3 : 0 ≤ x3 ∧ x3 ≤ 65535) (h4 : 0 ≤ x4 ∧ x4 ≤ 65535) (h5 : 0 ≤ x5 ∧ x5 ≤ 65535) (h6 : 0 ≤ x6 ∧ x6 ≤ 65535) (h7 : 0 ≤ x7 ∧ x7 ≤ 65535) (w : World) :
  Calls Tryd.prog 29 #[.agg #[.int .u32 x0, .int .u32 x1, .int .u32 x2, .int .u32 x3, .int .u32 x4, .int .u32 x5, .int .u32 x6, .int .u32 x7], .bool true] w fun e w' => e = .returned (.int .u64 (((x7 * 65536 + x6) * 65536 + x5) * 65536 + x4)) ∧ Below w.heap.size w w' := by
 go_enter Tryd.func29, Tryd.ntmps29
 go_wp2_with (first | ((with_reducible refine gate_dst (N := 2) rfl ?_); (try (refine gate_guard (by rfl) ?_; dsimp only)); refine box_event ?hg (N := 2) ?hd (cs := #[.int .u32 x0, .int .u32 x1, .int .u32 x2, .int .u32 x3, .int .u32 x4, .int .u32 x5, .int .u32 x6, .int .u32 x7]) (t := 61) ?hr ?_; (case hd => rfl); (case hg => rfl); (case hr => first | (go_simp; done) | (go_simp; rfl)); intro gb2 hg w2 hbox hb; have BK2 := Aside0.mk hbox; have HB := Aside0.mk hb; clear hbox hb hg))
 have hc0 : w2.cell? ⟨gb2, 0, none⟩ = some (.int .u32 x0) := (blk_cell BK2.out 0).trans rfl
 have hf0 := blk_frozen BK2.out 0
 have hc1 : w2.cell? ⟨gb2, 1, none⟩ = some (.int .u32 x1) := (blk_cell BK2.out 1).trans rfl
 have hf1 := blk_frozen BK2.out 1
 have hc2 : w2.cell? ⟨gb2, 2, none⟩ = some (.int .u32 x2) := (blk_cell BK2.out 2).trans rfl
 have hf2 := blk_frozen BK2.out 2
 have hc3 : w2.cell? ⟨gb2, 3, none⟩ = some (.int .u32 x3) := (blk_cell BK2.out 3).trans rfl
 have hf3 := blk_frozen BK2.out 3
 have hc4 : w2.cell? ⟨gb2, 4, none⟩ = some (.int .u32 x4) := (blk_cell BK2.out 4).trans rfl
 have hf4 := blk_frozen BK2.out 4
 have hc5 : w2.cell? ⟨gb2, 5, none⟩ = some (.int .u32 x5) := (blk_cell BK2.out 5).trans rfl
 have hf5 := blk_frozen BK2.out 5
 have hc6 : w2.cell? ⟨gb2, 6, none⟩ = some (.int .u32 x6) := (blk_cell BK2.out 6).trans rfl
 have hf6 := blk_frozen BK2.out 6
 have hc7 : w2.cell? ⟨gb2, 7, none⟩ = some (.int .u32 x7) := (blk_cell BK2.out 7).trans rfl
 have hf7 := blk_frozen BK2.out 7
 refine wp_loop_rounds 5 ?_
 rw [rounds_succ]
 go_wp2
 rw [rounds_succ]
 go_wp2
 rw [rounds_succ]
 go_wp2
 rw [rounds_succ]
 go_wp2
 rw [rounds_succ]
 go_wp2
 refine bodyPost_ret (v := .int .u64 (((x7 * 65536 + x6) * 65536 + x5) * 65536 + x4)) (results_single (r := .tmp 4) rfl (.tmp .nil)) rfl ⟨rfl, ?_⟩
 exact HB.out
theorem arrearsref03_Word.calls (a0_0 : Int) (a0_1 : Int) (a0_2 : Int) (a0_3 : Int) (a0_4 : Int) (a0_5 : Int) (a0_6 : Int) (a0_7 : Int) (a1 : Bool) (r : Int) (w : World) (h : arrearsref03_Word.f a0_0 a0_1 a0_2 a0_3 a0_4 a0_5 a0_6 a0_7 a1 = some r) :
  Calls Tryd.prog 29 #[.agg #[.int .u32 a0_0, .int .u32 a0_1, .int .u32 a0_2, .int .u32 a0_3, .int .u32 a0_4, .int .u32 a0_5, .int .u32 a0_6, .int .u32 a0_7], .bool a1] w fun e w' => e = .returned (.int .u64 r) ∧ Below w.heap.size w w' := by
 unfold arrearsref03_Word.f at h
 split at h
 ·
  rename_i hb
  obtain ⟨h0, h1, h2, h3, h4, h5, h6, h7⟩ := hb
  obtain rfl := Option.some.inj h
  cases a1 with
  | false => exact word_low _ _ _ _ _ _ _ _ h0 h1 h2 h3 h4 h5 h6 h7 w
  | true => exact word_high _ _ _ _ _ _ _ _ h0 h1 h2 h3 h4 h5 h6 h7 w
 ·
  exact absurd h (by simp)


/-! ### arrearsref03_Scale: function 32 -/
def arrearsref03_Scale.f (a0 : Int) (a1 : Int) (a2 : Int) : Option (Int × Int × Int) := if a2 = 0 then (some (0, 0, 1)) else ((arrearsref03_Mul.f a0 a1).bind fun bt225 => ((arrearsref03_Div.f bt225.1 bt225.2.1 bt225.2.2.1 bt225.2.2.2.1 bt225.2.2.2.2.1 bt225.2.2.2.2.2.1 bt225.2.2.2.2.2.2.1 bt225.2.2.2.2.2.2.2 a2).bind fun bt233 => ((arrearsref03_Word.f bt233.1 bt233.2.1 bt233.2.2.1 bt233.2.2.2.1 bt233.2.2.2.2.1 bt233.2.2.2.2.2.1 bt233.2.2.2.2.2.2.1 bt233.2.2.2.2.2.2.2.1 true).bind fun t243 => (if t243 > 0 then (some (0, 0, 12)) else ((arrearsref03_Word.f bt233.1 bt233.2.1 bt233.2.2.1 bt233.2.2.2.1 bt233.2.2.2.2.1 bt233.2.2.2.2.2.1 bt233.2.2.2.2.2.2.1 bt233.2.2.2.2.2.2.2.1 false).bind fun t244 => (some (t244, bt233.2.2.2.2.2.2.2.2, 0)))))))
set_option maxHeartbeats 8000000 in
set_option maxRecDepth 100000 in
theorem arrearsref03_Scale.calls (a0 : Int) (a1 : Int) (a2 : Int) (r1 : Int) (r2 : Int) (r3 : Int) (w : World) (h : arrearsref03_Scale.f a0 a1 a2 = some (r1, r2, r3)) :
  Calls Tryd.prog 32 #[.int .u64 a0, .int .u64 a1, .int .u64 a2] w fun e w' => e = .returned (.tuple #[.int .u64 r1, .int .u64 r2, .int .i64 r3]) ∧ Below w.heap.size w w' := by
 have hu61 := Tryd.underlying61
 have HB := Aside0.mk (Below.refl w.heap.size w)
 have H : (if a2 = 0 then (some (0, 0, 1)) else ((arrearsref03_Mul.f a0 a1).bind fun bt225 => ((arrearsref03_Div.f bt225.1 bt225.2.1 bt225.2.2.1 bt225.2.2.2.1 bt225.2.2.2.2.1 bt225.2.2.2.2.2.1 bt225.2.2.2.2.2.2.1 bt225.2.2.2.2.2.2.2 a2).bind fun bt233 => ((arrearsref03_Word.f bt233.1 bt233.2.1 bt233.2.2.1 bt233.2.2.2.1 bt233.2.2.2.2.1 bt233.2.2.2.2.2.1 bt233.2.2.2.2.2.2.1 bt233.2.2.2.2.2.2.2.1 true).bind fun t243 => (if t243 > 0 then (some (0, 0, 12)) else ((arrearsref03_Word.f bt233.1 bt233.2.1 bt233.2.2.1 bt233.2.2.2.1 bt233.2.2.2.2.1 bt233.2.2.2.2.2.1 bt233.2.2.2.2.2.2.1 bt233.2.2.2.2.2.2.2.1 false).bind fun t244 => (some (t244, bt233.2.2.2.2.2.2.2.2, 0)))))))) = some (r1, r2, r3) := h
 clear h
 by_cases c4 : a2 = 0
 ·
  rw [if_pos c4] at H
  have c4b0 : (a2 == 0) = true := beq_iff_eq.mpr c4
  have c4b1 : (a2 != 0) = false := bne_eq_false_iff_eq.mpr c4
  clear c4
  simp only [Option.some.injEq, Prod.mk.injEq] at H
  obtain ⟨rfl, rfl, rfl⟩ := H
  go_enter Tryd.func32, Tryd.ntmps32
  go_wp2
  go_ret3
  exact ⟨by first | rfl | (simp [errW_none, errW_some] <;> rfl) | (simp [*, errW_none, errW_some] <;> rfl), by repeat (first | (with_reducible first | exact HB.out | apply below_alloc | apply pw_below_drewN | apply below_drew1) | exact HB.out)⟩
 ·
  rw [if_neg c4] at H
  have c4b0 : (a2 == 0) = false := beq_eq_false_iff_ne.mpr c4
  have c4b1 : (a2 != 0) = true := bne_iff_ne.mpr c4
  replace H := Option.bind_eq_some_iff.mp H
  obtain ⟨⟨t225, t226, t227, t228, t229, t230, t231, t232⟩, A50, H⟩ := H
  replace H : ((arrearsref03_Div.f t225 t226 t227 t228 t229 t230 t231 t232 a2).bind fun bt233 => ((arrearsref03_Word.f bt233.1 bt233.2.1 bt233.2.2.1 bt233.2.2.2.1 bt233.2.2.2.2.1 bt233.2.2.2.2.2.1 bt233.2.2.2.2.2.2.1 bt233.2.2.2.2.2.2.2.1 true).bind fun t243 => (if t243 > 0 then (some (0, 0, 12)) else ((arrearsref03_Word.f bt233.1 bt233.2.1 bt233.2.2.1 bt233.2.2.2.1 bt233.2.2.2.2.1 bt233.2.2.2.2.2.1 bt233.2.2.2.2.2.2.1 bt233.2.2.2.2.2.2.2.1 false).bind fun t244 => (some (t244, bt233.2.2.2.2.2.2.2.2, 0)))))) = some (r1, r2, r3) := H
  have A5 := Aside0.mk A50
  clear A50
  replace H := Option.bind_eq_some_iff.mp H
  obtain ⟨⟨t233, t234, t235, t236, t237, t238, t239, t240, t241⟩, A60, H⟩ := H
  replace H : ((arrearsref03_Word.f t233 t234 t235 t236 t237 t238 t239 t240 true).bind fun t243 => (if t243 > 0 then (some (0, 0, 12)) else ((arrearsref03_Word.f t233 t234 t235 t236 t237 t238 t239 t240 false).bind fun t244 => (some (t244, t241, 0))))) = some (r1, r2, r3) := H
  have A6 := Aside0.mk A60
  clear A60
  replace H := Option.bind_eq_some_iff.mp H
  obtain ⟨t243, A70, H⟩ := H
  replace H : (if t243 > 0 then (some (0, 0, 12)) else ((arrearsref03_Word.f t233 t234 t235 t236 t237 t238 t239 t240 false).bind fun t244 => (some (t244, t241, 0)))) = some (r1, r2, r3) := H
  have A7 := Aside0.mk A70
  clear A70
  by_cases c8 : t243 > 0
  ·
   rw [if_pos c8] at H
   have c8b0 : decide (0 < t243) = true := decide_eq_true c8
   clear c8
   simp only [Option.some.injEq, Prod.mk.injEq] at H
   obtain ⟨rfl, rfl, rfl⟩ := H
   go_enter Tryd.func32, Tryd.ntmps32
   go_wp2_with (first | ((with_reducible refine gate_callee (f := 26) rfl ?_); refine goesL_ (some 16) rfl rfl Tryd.func26 (by kernel_rfl) rfl #[.int .u64 a0, .int .u64 a1] rfl (by (try simp only [List.map_toArray, List.map_cons, List.map_nil]); first | done | rfl | (simp only [List.length_drop, List.length_take]; rfl)) ?_; (with_reducible refine (arrearsref03_Mul.calls a0 a1 t225 t226 t227 t228 t229 t230 t231 t232 _ A5.out).mono ?_); rintro e w9 ⟨rfl, hb⟩; refine ⟨_, rfl, ?_⟩; have n0_ := Aside0.mk (below_step (by repeat (first | (with_reducible first | exact HB.out | apply below_alloc | apply pw_below_drewN | apply below_drew1) | exact HB.out)) hb); clear HB; have HB := n0_; clear n0_; (try clear hb); (try clear hb2); (try clear hk); (try clear hi)) | ((with_reducible refine gate_callee (f := 28) rfl ?_); refine goesL_ (some 18) rfl rfl Tryd.func28 (by kernel_rfl) rfl #[.agg #[.int .u32 t225, .int .u32 t226, .int .u32 t227, .int .u32 t228, .int .u32 t229, .int .u32 t230, .int .u32 t231, .int .u32 t232], .int .u64 a2] rfl (by (try simp only [List.map_toArray, List.map_cons, List.map_nil]); first | done | rfl | (simp only [List.length_drop, List.length_take]; rfl)) ?_; (with_reducible refine (arrearsref03_Div.calls t225 t226 t227 t228 t229 t230 t231 t232 a2 t233 t234 t235 t236 t237 t238 t239 t240 t241 _ A6.out).mono ?_); rintro e w10 ⟨rfl, hb⟩; refine ⟨_, rfl, ?_⟩; have n0_ := Aside0.mk (below_step (by repeat (first | (with_reducible first | exact HB.out | apply below_alloc | apply pw_below_drewN | apply below_drew1) | exact HB.out)) hb); clear HB; have HB := n0_; clear n0_; (try clear hb); (try clear hb2); (try clear hk); (try clear hi)) | ((with_reducible refine gate_dst (N := 9) rfl ?_); refine box_event ?hg (N := 9) ?hd (cs := #[.int .u32 0, .int .u32 0, .int .u32 0, .int .u32 0, .int .u32 0, .int .u32 0, .int .u32 0, .int .u32 0]) (t := 61) ?hr ?_; (case hd => rfl); (case hg => rfl); (case hr => first | (go_simp; done) | (go_simp; rfl)); intro gb242 hg w11 hbox hb; have n0_ := Aside0.mk (below_step (by repeat (first | (with_reducible first | exact HB.out | apply below_alloc | apply pw_below_drewN | apply below_drew1) | exact HB.out)) hb); have n1_ := Aside0.mk (hbox); have n2_ := Aside0.mk ((by rw [hg]; exact (below_size (by repeat (first | (with_reducible first | exact HB.out | apply below_alloc | apply pw_below_drewN | apply below_drew1) | exact HB.out))) : w.heap.size ≤ gb242)); have n3_ := Aside0.mk ((by rw [hg]; exact (below_size (by repeat (first | (with_reducible first | exact HB.out | apply below_alloc | apply pw_below_drewN | apply below_drew1) | exact HB.out))) : w.heap.size ≤ gb242)); clear HB; have HB := n0_; have BK242 := n1_; have GW242 := n2_; have GE242 := n3_; clear n0_ n1_ n2_ n3_; clear hb hbox hg; have hcz12_0 : w11.cell? ⟨gb242, 0, none⟩ = some (.int .u32 0) := (blk_cell BK242.out 0).trans rfl; have hcz12_1 : w11.cell? ⟨gb242, 1, none⟩ = some (.int .u32 0) := (blk_cell BK242.out 1).trans rfl; have hcz12_2 : w11.cell? ⟨gb242, 2, none⟩ = some (.int .u32 0) := (blk_cell BK242.out 2).trans rfl; have hcz12_3 : w11.cell? ⟨gb242, 3, none⟩ = some (.int .u32 0) := (blk_cell BK242.out 3).trans rfl; have hcz12_4 : w11.cell? ⟨gb242, 4, none⟩ = some (.int .u32 0) := (blk_cell BK242.out 4).trans rfl; have hcz12_5 : w11.cell? ⟨gb242, 5, none⟩ = some (.int .u32 0) := (blk_cell BK242.out 5).trans rfl; have hcz12_6 : w11.cell? ⟨gb242, 6, none⟩ = some (.int .u32 0) := (blk_cell BK242.out 6).trans rfl; have hcz12_7 : w11.cell? ⟨gb242, 7, none⟩ = some (.int .u32 0) := (blk_cell BK242.out 7).trans rfl; have hfz12_0 := blk_frozen BK242.out 0; have hfz12_1 := blk_frozen BK242.out 1; have hfz12_2 := blk_frozen BK242.out 2; have hfz12_3 := blk_frozen BK242.out 3; have hfz12_4 := blk_frozen BK242.out 4; have hfz12_5 := blk_frozen BK242.out 5; have hfz12_6 := blk_frozen BK242.out 6; have hfz12_7 := blk_frozen BK242.out 7) | ((with_reducible refine gate_callee (f := 29) rfl ?_); refine goesL_ (some 22) rfl rfl Tryd.func29 (by kernel_rfl) rfl #[.agg #[.int .u32 t233, .int .u32 t234, .int .u32 t235, .int .u32 t236, .int .u32 t237, .int .u32 t238, .int .u32 t239, .int .u32 t240], .bool true] rfl (by (try simp only [List.map_toArray, List.map_cons, List.map_nil]); first | done | rfl | (simp only [List.length_drop, List.length_take]; rfl)) ?_; (with_reducible refine (arrearsref03_Word.calls t233 t234 t235 t236 t237 t238 t239 t240 true t243 _ A7.out).mono ?_); rintro e w13 ⟨rfl, hb⟩; refine ⟨_, rfl, ?_⟩; have n0_ := Aside0.mk (blk_below (g := gb242) (o := .cells #[.int .u32 t233, .int .u32 t234, .int .u32 t235, .int .u32 t236, .int .u32 t237, .int .u32 t238, .int .u32 t239, .int .u32 t240] 61 (0, 0)) (by (with_reducible repeat (first | refine blk_drewN ?_ _ | refine blk_drew ?_ | refine blk_alloc ?_ _)); refine blk_put (cs := #[.int .u32 t233, .int .u32 t234, .int .u32 t235, .int .u32 t236, .int .u32 t237, .int .u32 t238, .int .u32 t239, .int .u32 0]) ?_ 7 _ rfl; (with_reducible repeat (first | refine blk_drewN ?_ _ | refine blk_drew ?_ | refine blk_alloc ?_ _)); refine blk_put (cs := #[.int .u32 t233, .int .u32 t234, .int .u32 t235, .int .u32 t236, .int .u32 t237, .int .u32 t238, .int .u32 0, .int .u32 0]) ?_ 6 _ rfl; (with_reducible repeat (first | refine blk_drewN ?_ _ | refine blk_drew ?_ | refine blk_alloc ?_ _)); refine blk_put (cs := #[.int .u32 t233, .int .u32 t234, .int .u32 t235, .int .u32 t236, .int .u32 t237, .int .u32 0, .int .u32 0, .int .u32 0]) ?_ 5 _ rfl; (with_reducible repeat (first | refine blk_drewN ?_ _ | refine blk_drew ?_ | refine blk_alloc ?_ _)); refine blk_put (cs := #[.int .u32 t233, .int .u32 t234, .int .u32 t235, .int .u32 t236, .int .u32 0, .int .u32 0, .int .u32 0, .int .u32 0]) ?_ 4 _ rfl; (with_reducible repeat (first | refine blk_drewN ?_ _ | refine blk_drew ?_ | refine blk_alloc ?_ _)); refine blk_put (cs := #[.int .u32 t233, .int .u32 t234, .int .u32 t235, .int .u32 0, .int .u32 0, .int .u32 0, .int .u32 0, .int .u32 0]) ?_ 3 _ rfl; (with_reducible repeat (first | refine blk_drewN ?_ _ | refine blk_drew ?_ | refine blk_alloc ?_ _)); refine blk_put (cs := #[.int .u32 t233, .int .u32 t234, .int .u32 0, .int .u32 0, .int .u32 0, .int .u32 0, .int .u32 0, .int .u32 0]) ?_ 2 _ rfl; (with_reducible repeat (first | refine blk_drewN ?_ _ | refine blk_drew ?_ | refine blk_alloc ?_ _)); refine blk_put (cs := #[.int .u32 t233, .int .u32 0, .int .u32 0, .int .u32 0, .int .u32 0, .int .u32 0, .int .u32 0, .int .u32 0]) ?_ 1 _ rfl; (with_reducible repeat (first | refine blk_drewN ?_ _ | refine blk_drew ?_ | refine blk_alloc ?_ _)); refine blk_put (cs := #[.int .u32 0, .int .u32 0, .int .u32 0, .int .u32 0, .int .u32 0, .int .u32 0, .int .u32 0, .int .u32 0]) ?_ 0 _ rfl; (with_reducible repeat (first | refine blk_drewN ?_ _ | refine blk_drew ?_ | refine blk_alloc ?_ _)); exact BK242.out) hb); have n1_ := Aside0.mk (below_step (by repeat (first | (with_reducible first | exact HB.out | apply below_alloc | apply pw_below_drewN | apply below_drew1 | refine below_set ?_ GE242.out) | exact HB.out)) hb); clear BK242; clear HB; have BK242 := n0_; have HB := n1_; clear n0_ n1_; (try clear hb); (try clear hb2); (try clear hk); (try clear hi)))
   go_ret3
   exact ⟨by first | rfl | (simp [errW_none, errW_some] <;> rfl) | (simp [*, errW_none, errW_some] <;> rfl), by repeat (first | (with_reducible first | exact HB.out | apply below_alloc | apply pw_below_drewN | apply below_drew1 | refine below_set ?_ GE242.out) | exact HB.out)⟩
  ·
   rw [if_neg c8] at H
   have c8b0 : decide (0 < t243) = false := decide_eq_false c8
   clear c8
   replace H := Option.bind_eq_some_iff.mp H
   obtain ⟨t244, A140, H⟩ := H
   replace H : (some (t244, t241, 0)) = some (r1, r2, r3) := H
   have A14 := Aside0.mk A140
   clear A140
   simp only [Option.some.injEq, Prod.mk.injEq] at H
   obtain ⟨rfl, rfl, rfl⟩ := H
   go_enter Tryd.func32, Tryd.ntmps32
   go_wp2_with (first | ((with_reducible refine gate_callee (f := 26) rfl ?_); refine goesL_ (some 16) rfl rfl Tryd.func26 (by kernel_rfl) rfl #[.int .u64 a0, .int .u64 a1] rfl (by (try simp only [List.map_toArray, List.map_cons, List.map_nil]); first | done | rfl | (simp only [List.length_drop, List.length_take]; rfl)) ?_; (with_reducible refine (arrearsref03_Mul.calls a0 a1 t225 t226 t227 t228 t229 t230 t231 t232 _ A5.out).mono ?_); rintro e w15 ⟨rfl, hb⟩; refine ⟨_, rfl, ?_⟩; have n0_ := Aside0.mk (below_step (by repeat (first | (with_reducible first | exact HB.out | apply below_alloc | apply pw_below_drewN | apply below_drew1) | exact HB.out)) hb); clear HB; have HB := n0_; clear n0_; (try clear hb); (try clear hb2); (try clear hk); (try clear hi)) | ((with_reducible refine gate_callee (f := 28) rfl ?_); refine goesL_ (some 18) rfl rfl Tryd.func28 (by kernel_rfl) rfl #[.agg #[.int .u32 t225, .int .u32 t226, .int .u32 t227, .int .u32 t228, .int .u32 t229, .int .u32 t230, .int .u32 t231, .int .u32 t232], .int .u64 a2] rfl (by (try simp only [List.map_toArray, List.map_cons, List.map_nil]); first | done | rfl | (simp only [List.length_drop, List.length_take]; rfl)) ?_; (with_reducible refine (arrearsref03_Div.calls t225 t226 t227 t228 t229 t230 t231 t232 a2 t233 t234 t235 t236 t237 t238 t239 t240 t241 _ A6.out).mono ?_); rintro e w16 ⟨rfl, hb⟩; refine ⟨_, rfl, ?_⟩; have n0_ := Aside0.mk (below_step (by repeat (first | (with_reducible first | exact HB.out | apply below_alloc | apply pw_below_drewN | apply below_drew1) | exact HB.out)) hb); clear HB; have HB := n0_; clear n0_; (try clear hb); (try clear hb2); (try clear hk); (try clear hi)) | ((with_reducible refine gate_dst (N := 9) rfl ?_); refine box_event ?hg (N := 9) ?hd (cs := #[.int .u32 0, .int .u32 0, .int .u32 0, .int .u32 0, .int .u32 0, .int .u32 0, .int .u32 0, .int .u32 0]) (t := 61) ?hr ?_; (case hd => rfl); (case hg => rfl); (case hr => first | (go_simp; done) | (go_simp; rfl)); intro gb242 hg w17 hbox hb; have n0_ := Aside0.mk (below_step (by repeat (first | (with_reducible first | exact HB.out | apply below_alloc | apply pw_below_drewN | apply below_drew1) | exact HB.out)) hb); have n1_ := Aside0.mk (hbox); have n2_ := Aside0.mk ((by rw [hg]; exact (below_size (by repeat (first | (with_reducible first | exact HB.out | apply below_alloc | apply pw_below_drewN | apply below_drew1) | exact HB.out))) : w.heap.size ≤ gb242)); have n3_ := Aside0.mk ((by rw [hg]; exact (below_size (by repeat (first | (with_reducible first | exact HB.out | apply below_alloc | apply pw_below_drewN | apply below_drew1) | exact HB.out))) : w.heap.size ≤ gb242)); clear HB; have HB := n0_; have BK242 := n1_; have GW242 := n2_; have GE242 := n3_; clear n0_ n1_ n2_ n3_; clear hb hbox hg; have hcz18_0 : w17.cell? ⟨gb242, 0, none⟩ = some (.int .u32 0) := (blk_cell BK242.out 0).trans rfl; have hcz18_1 : w17.cell? ⟨gb242, 1, none⟩ = some (.int .u32 0) := (blk_cell BK242.out 1).trans rfl; have hcz18_2 : w17.cell? ⟨gb242, 2, none⟩ = some (.int .u32 0) := (blk_cell BK242.out 2).trans rfl; have hcz18_3 : w17.cell? ⟨gb242, 3, none⟩ = some (.int .u32 0) := (blk_cell BK242.out 3).trans rfl; have hcz18_4 : w17.cell? ⟨gb242, 4, none⟩ = some (.int .u32 0) := (blk_cell BK242.out 4).trans rfl; have hcz18_5 : w17.cell? ⟨gb242, 5, none⟩ = some (.int .u32 0) := (blk_cell BK242.out 5).trans rfl; have hcz18_6 : w17.cell? ⟨gb242, 6, none⟩ = some (.int .u32 0) := (blk_cell BK242.out 6).trans rfl; have hcz18_7 : w17.cell? ⟨gb242, 7, none⟩ = some (.int .u32 0) := (blk_cell BK242.out 7).trans rfl; have hfz18_0 := blk_frozen BK242.out 0; have hfz18_1 := blk_frozen BK242.out 1; have hfz18_2 := blk_frozen BK242.out 2; have hfz18_3 := blk_frozen BK242.out 3; have hfz18_4 := blk_frozen BK242.out 4; have hfz18_5 := blk_frozen BK242.out 5; have hfz18_6 := blk_frozen BK242.out 6; have hfz18_7 := blk_frozen BK242.out 7) | ((with_reducible refine gate_callee (f := 29) rfl ?_); refine goesL_ (some 22) rfl rfl Tryd.func29 (by kernel_rfl) rfl #[.agg #[.int .u32 t233, .int .u32 t234, .int .u32 t235, .int .u32 t236, .int .u32 t237, .int .u32 t238, .int .u32 t239, .int .u32 t240], .bool true] rfl (by (try simp only [List.map_toArray, List.map_cons, List.map_nil]); first | done | rfl | (simp only [List.length_drop, List.length_take]; rfl)) ?_; (with_reducible refine (arrearsref03_Word.calls t233 t234 t235 t236 t237 t238 t239 t240 true t243 _ A7.out).mono ?_); rintro e w19 ⟨rfl, hb⟩; refine ⟨_, rfl, ?_⟩; have n0_ := Aside0.mk (blk_below (g := gb242) (o := .cells #[.int .u32 t233, .int .u32 t234, .int .u32 t235, .int .u32 t236, .int .u32 t237, .int .u32 t238, .int .u32 t239, .int .u32 t240] 61 (0, 0)) (by (with_reducible repeat (first | refine blk_drewN ?_ _ | refine blk_drew ?_ | refine blk_alloc ?_ _)); refine blk_put (cs := #[.int .u32 t233, .int .u32 t234, .int .u32 t235, .int .u32 t236, .int .u32 t237, .int .u32 t238, .int .u32 t239, .int .u32 0]) ?_ 7 _ rfl; (with_reducible repeat (first | refine blk_drewN ?_ _ | refine blk_drew ?_ | refine blk_alloc ?_ _)); refine blk_put (cs := #[.int .u32 t233, .int .u32 t234, .int .u32 t235, .int .u32 t236, .int .u32 t237, .int .u32 t238, .int .u32 0, .int .u32 0]) ?_ 6 _ rfl; (with_reducible repeat (first | refine blk_drewN ?_ _ | refine blk_drew ?_ | refine blk_alloc ?_ _)); refine blk_put (cs := #[.int .u32 t233, .int .u32 t234, .int .u32 t235, .int .u32 t236, .int .u32 t237, .int .u32 0, .int .u32 0, .int .u32 0]) ?_ 5 _ rfl; (with_reducible repeat (first | refine blk_drewN ?_ _ | refine blk_drew ?_ | refine blk_alloc ?_ _)); refine blk_put (cs := #[.int .u32 t233, .int .u32 t234, .int .u32 t235, .int .u32 t236, .int .u32 0, .int .u32 0, .int .u32 0, .int .u32 0]) ?_ 4 _ rfl; (with_reducible repeat (first | refine blk_drewN ?_ _ | refine blk_drew ?_ | refine blk_alloc ?_ _)); refine blk_put (cs := #[.int .u32 t233, .int .u32 t234, .int .u32 t235, .int .u32 0, .int .u32 0, .int .u32 0, .int .u32 0, .int .u32 0]) ?_ 3 _ rfl; (with_reducible repeat (first | refine blk_drewN ?_ _ | refine blk_drew ?_ | refine blk_alloc ?_ _)); refine blk_put (cs := #[.int .u32 t233, .int .u32 t234, .int .u32 0, .int .u32 0, .int .u32 0, .int .u32 0, .int .u32 0, .int .u32 0]) ?_ 2 _ rfl; (with_reducible repeat (first | refine blk_drewN ?_ _ | refine blk_drew ?_ | refine blk_alloc ?_ _)); refine blk_put (cs := #[.int .u32 t233, .int .u32 0, .int .u32 0, .int .u32 0, .int .u32 0, .int .u32 0, .int .u32 0, .int .u32 0]) ?_ 1 _ rfl; (with_reducible repeat (first | refine blk_drewN ?_ _ | refine blk_drew ?_ | refine blk_alloc ?_ _)); refine blk_put (cs := #[.int .u32 0, .int .u32 0, .int .u32 0, .int .u32 0, .int .u32 0, .int .u32 0, .int .u32 0, .int .u32 0]) ?_ 0 _ rfl; (with_reducible repeat (first | refine blk_drewN ?_ _ | refine blk_drew ?_ | refine blk_alloc ?_ _)); exact BK242.out) hb); have n1_ := Aside0.mk (below_step (by repeat (first | (with_reducible first | exact HB.out | apply below_alloc | apply pw_below_drewN | apply below_drew1 | refine below_set ?_ GE242.out) | exact HB.out)) hb); clear BK242; clear HB; have BK242 := n0_; have HB := n1_; clear n0_ n1_; (try clear hb); (try clear hb2); (try clear hk); (try clear hi); have hcz20_0 : w19.cell? ⟨gb242, 0, none⟩ = some (.int .u32 t233) := (blk_cell BK242.out 0).trans rfl; have hcz20_1 : w19.cell? ⟨gb242, 1, none⟩ = some (.int .u32 t234) := (blk_cell BK242.out 1).trans rfl; have hcz20_2 : w19.cell? ⟨gb242, 2, none⟩ = some (.int .u32 t235) := (blk_cell BK242.out 2).trans rfl; have hcz20_3 : w19.cell? ⟨gb242, 3, none⟩ = some (.int .u32 t236) := (blk_cell BK242.out 3).trans rfl; have hcz20_4 : w19.cell? ⟨gb242, 4, none⟩ = some (.int .u32 t237) := (blk_cell BK242.out 4).trans rfl; have hcz20_5 : w19.cell? ⟨gb242, 5, none⟩ = some (.int .u32 t238) := (blk_cell BK242.out 5).trans rfl; have hcz20_6 : w19.cell? ⟨gb242, 6, none⟩ = some (.int .u32 t239) := (blk_cell BK242.out 6).trans rfl; have hcz20_7 : w19.cell? ⟨gb242, 7, none⟩ = some (.int .u32 t240) := (blk_cell BK242.out 7).trans rfl; have hfz20_0 := blk_frozen BK242.out 0; have hfz20_1 := blk_frozen BK242.out 1; have hfz20_2 := blk_frozen BK242.out 2; have hfz20_3 := blk_frozen BK242.out 3; have hfz20_4 := blk_frozen BK242.out 4; have hfz20_5 := blk_frozen BK242.out 5; have hfz20_6 := blk_frozen BK242.out 6; have hfz20_7 := blk_frozen BK242.out 7) | ((with_reducible refine gate_callee (f := 29) rfl ?_); refine goesL_ (some 25) rfl rfl Tryd.func29 (by kernel_rfl) rfl #[.agg #[.int .u32 t233, .int .u32 t234, .int .u32 t235, .int .u32 t236, .int .u32 t237, .int .u32 t238, .int .u32 t239, .int .u32 t240], .bool false] rfl (by (try simp only [List.map_toArray, List.map_cons, List.map_nil]); first | done | rfl | (simp only [List.length_drop, List.length_take]; rfl)) ?_; (with_reducible refine (arrearsref03_Word.calls t233 t234 t235 t236 t237 t238 t239 t240 false t244 _ A14.out).mono ?_); rintro e w21 ⟨rfl, hb⟩; refine ⟨_, rfl, ?_⟩; have n0_ := Aside0.mk (blk_below (g := gb242) (o := .cells #[.int .u32 t233, .int .u32 t234, .int .u32 t235, .int .u32 t236, .int .u32 t237, .int .u32 t238, .int .u32 t239, .int .u32 t240] 61 (0, 0)) (by (with_reducible repeat (first | refine blk_drewN ?_ _ | refine blk_drew ?_ | refine blk_alloc ?_ _)); exact BK242.out) hb); have n1_ := Aside0.mk (below_step (by repeat (first | (with_reducible first | exact HB.out | apply below_alloc | apply pw_below_drewN | apply below_drew1 | refine below_set ?_ GE242.out) | exact HB.out)) hb); clear BK242; clear HB; have BK242 := n0_; have HB := n1_; clear n0_ n1_; (try clear hb); (try clear hb2); (try clear hk); (try clear hi)))
   go_ret3
   exact ⟨by first | rfl | (simp [errW_none, errW_some] <;> rfl) | (simp [*, errW_none, errW_some] <;> rfl), by repeat (first | (with_reducible first | exact HB.out | apply below_alloc | apply pw_below_drewN | apply below_drew1 | refine below_set ?_ GE242.out) | exact HB.out)⟩

/-! ### arrearsref09_Month: function 16 -/
def arrearsref09_Month.f (a0_0 : Int) (a0_1 : Bool) (a1 : Int) : Option (Int) := (arrearsref03_Scale.f (IntKind.u64.wrap (a1)) (IntKind.u64.wrap (a0_0)) 12000000).bind fun bt246 => (if bt246.2.1 ≥ 6000000 then (some (wrap64 (IntKind.u64.wrap (bt246.1 + 1)))) else (some (wrap64 (bt246.1))))
set_option maxHeartbeats 8000000 in
set_option maxRecDepth 100000 in
theorem arrearsref09_Month.calls (a0_0 : Int) (a0_1 : Bool) (a1 : Int) (r : Int) (w : World) (h : arrearsref09_Month.f a0_0 a0_1 a1 = some r) :
  Calls Tryd.prog 16 #[.agg #[.int .u32 a0_0, .bool a0_1], .int .i64 a1] w fun e w' => e = .returned (.int .i64 r) ∧ Below w.heap.size w w' := by
 have hu34 := Tryd.underlying34
 have HB := Aside0.mk (Below.refl w.heap.size w)
 have H : ((arrearsref03_Scale.f (IntKind.u64.wrap (a1)) (IntKind.u64.wrap (a0_0)) 12000000).bind fun bt246 => (if bt246.2.1 ≥ 6000000 then (some (wrap64 (IntKind.u64.wrap (bt246.1 + 1)))) else (some (wrap64 (bt246.1))))) = some r := h
 clear h
 replace H := Option.bind_eq_some_iff.mp H
 obtain ⟨⟨t246, t247, t248⟩, A30, H⟩ := H
 replace H : (if t247 ≥ 6000000 then (some (wrap64 (IntKind.u64.wrap (t246 + 1)))) else (some (wrap64 (t246)))) = some r := H
 have A3 := Aside0.mk A30
 clear A30
 by_cases c4 : t247 ≥ 6000000
 ·
  rw [if_pos c4] at H
  have c4b0 : decide (6000000 ≤ t247) = true := decide_eq_true c4
  clear c4
  obtain rfl := Option.some.inj H
  go_enter Tryd.func16, Tryd.ntmps16
  go_wp2_with (first | ((with_reducible refine gate_dst (N := 2) rfl ?_); refine box_event ?hg (N := 2) ?hd (cs := #[.int .u32 a0_0, .bool a0_1]) (t := 34) ?hr ?_; (case hd => rfl); (case hg => rfl); (case hr => first | (go_simp; done) | (go_simp; rfl)); intro gb245 hg w5 hbox hb; have n0_ := Aside0.mk (below_step (by repeat (first | (with_reducible first | exact HB.out | apply below_alloc | apply pw_below_drewN | apply below_drew1) | exact HB.out)) hb); have n1_ := Aside0.mk (hbox); have n2_ := Aside0.mk ((by rw [hg]; exact (below_size (by repeat (first | (with_reducible first | exact HB.out | apply below_alloc | apply pw_below_drewN | apply below_drew1) | exact HB.out))) : w.heap.size ≤ gb245)); have n3_ := Aside0.mk ((by rw [hg]; exact (below_size (by repeat (first | (with_reducible first | exact HB.out | apply below_alloc | apply pw_below_drewN | apply below_drew1) | exact HB.out))) : w.heap.size ≤ gb245)); clear HB; have HB := n0_; have BK245 := n1_; have GW245 := n2_; have GE245 := n3_; clear n0_ n1_ n2_ n3_; clear hb hbox hg; have hcz6_0 : w5.cell? ⟨gb245, 0, none⟩ = some (.int .u32 a0_0) := (blk_cell BK245.out 0).trans rfl; have hcz6_1 : w5.cell? ⟨gb245, 1, none⟩ = some (.bool a0_1) := (blk_cell BK245.out 1).trans rfl; have hfz6_0 := blk_frozen BK245.out 0; have hfz6_1 := blk_frozen BK245.out 1) | ((with_reducible refine gate_callee (f := 32) rfl ?_); refine goesL_ (some 14) rfl rfl Tryd.func32 (by kernel_rfl) rfl #[.int .u64 (IntKind.u64.wrap (a1)), .int .u64 (IntKind.u64.wrap (a0_0)), .int .u64 12000000] rfl (by (try simp only [List.map_toArray, List.map_cons, List.map_nil]); first | done | rfl | (simp only [List.length_drop, List.length_take]; rfl)) ?_; (with_reducible refine (arrearsref03_Scale.calls (IntKind.u64.wrap (a1)) (IntKind.u64.wrap (a0_0)) 12000000 t246 t247 t248 _ A3.out).mono ?_); rintro e w7 ⟨rfl, hb⟩; refine ⟨_, rfl, ?_⟩; have n0_ := Aside0.mk (blk_below (g := gb245) (o := .cells #[.int .u32 a0_0, .bool a0_1] 34 (0, 0)) (by (with_reducible repeat (first | refine blk_drewN ?_ _ | refine blk_drew ?_ | refine blk_alloc ?_ _)); exact BK245.out) hb); have n1_ := Aside0.mk (below_step (by repeat (first | (with_reducible first | exact HB.out | apply below_alloc | apply pw_below_drewN | apply below_drew1 | refine below_set ?_ GE245.out) | exact HB.out)) hb); clear BK245; clear HB; have BK245 := n0_; have HB := n1_; clear n0_ n1_; (try clear hb); (try clear hb2); (try clear hk); (try clear hi)))
  go_ret
  exact ⟨by first | rfl | (simp [errW_none, errW_some] <;> rfl) | (simp [*, errW_none, errW_some] <;> rfl), by repeat (first | (with_reducible first | exact HB.out | apply below_alloc | apply pw_below_drewN | apply below_drew1 | refine below_set ?_ GE245.out) | exact HB.out)⟩
 ·
  rw [if_neg c4] at H
  have c4b0 : decide (6000000 ≤ t247) = false := decide_eq_false c4
  clear c4
  obtain rfl := Option.some.inj H
  go_enter Tryd.func16, Tryd.ntmps16
  go_wp2_with (first | ((with_reducible refine gate_dst (N := 2) rfl ?_); refine box_event ?hg (N := 2) ?hd (cs := #[.int .u32 a0_0, .bool a0_1]) (t := 34) ?hr ?_; (case hd => rfl); (case hg => rfl); (case hr => first | (go_simp; done) | (go_simp; rfl)); intro gb245 hg w8 hbox hb; have n0_ := Aside0.mk (below_step (by repeat (first | (with_reducible first | exact HB.out | apply below_alloc | apply pw_below_drewN | apply below_drew1) | exact HB.out)) hb); have n1_ := Aside0.mk (hbox); have n2_ := Aside0.mk ((by rw [hg]; exact (below_size (by repeat (first | (with_reducible first | exact HB.out | apply below_alloc | apply pw_below_drewN | apply below_drew1) | exact HB.out))) : w.heap.size ≤ gb245)); have n3_ := Aside0.mk ((by rw [hg]; exact (below_size (by repeat (first | (with_reducible first | exact HB.out | apply below_alloc | apply pw_below_drewN | apply below_drew1) | exact HB.out))) : w.heap.size ≤ gb245)); clear HB; have HB := n0_; have BK245 := n1_; have GW245 := n2_; have GE245 := n3_; clear n0_ n1_ n2_ n3_; clear hb hbox hg; have hcz9_0 : w8.cell? ⟨gb245, 0, none⟩ = some (.int .u32 a0_0) := (blk_cell BK245.out 0).trans rfl; have hcz9_1 : w8.cell? ⟨gb245, 1, none⟩ = some (.bool a0_1) := (blk_cell BK245.out 1).trans rfl; have hfz9_0 := blk_frozen BK245.out 0; have hfz9_1 := blk_frozen BK245.out 1) | ((with_reducible refine gate_callee (f := 32) rfl ?_); refine goesL_ (some 14) rfl rfl Tryd.func32 (by kernel_rfl) rfl #[.int .u64 (IntKind.u64.wrap (a1)), .int .u64 (IntKind.u64.wrap (a0_0)), .int .u64 12000000] rfl (by (try simp only [List.map_toArray, List.map_cons, List.map_nil]); first | done | rfl | (simp only [List.length_drop, List.length_take]; rfl)) ?_; (with_reducible refine (arrearsref03_Scale.calls (IntKind.u64.wrap (a1)) (IntKind.u64.wrap (a0_0)) 12000000 t246 t247 t248 _ A3.out).mono ?_); rintro e w10 ⟨rfl, hb⟩; refine ⟨_, rfl, ?_⟩; have n0_ := Aside0.mk (blk_below (g := gb245) (o := .cells #[.int .u32 a0_0, .bool a0_1] 34 (0, 0)) (by (with_reducible repeat (first | refine blk_drewN ?_ _ | refine blk_drew ?_ | refine blk_alloc ?_ _)); exact BK245.out) hb); have n1_ := Aside0.mk (below_step (by repeat (first | (with_reducible first | exact HB.out | apply below_alloc | apply pw_below_drewN | apply below_drew1 | refine below_set ?_ GE245.out) | exact HB.out)) hb); clear BK245; clear HB; have BK245 := n0_; have HB := n1_; clear n0_ n1_; (try clear hb); (try clear hb2); (try clear hk); (try clear hi)))
  go_ret
  exact ⟨by first | rfl | (simp [errW_none, errW_some] <;> rfl) | (simp [*, errW_none, errW_some] <;> rfl), by repeat (first | (with_reducible first | exact HB.out | apply below_alloc | apply pw_below_drewN | apply below_drew1 | refine below_set ?_ GE245.out) | exact HB.out)⟩

/-! ### arrearsref03_Add: function 25 -/
def arrearsref03_Add.f (a0_0 : Int) (a0_1 : Int) (a0_2 : Int) (a0_3 : Int) (a0_4 : Int) (a0_5 : Int) (a0_6 : Int) (a0_7 : Int) (a1_0 : Int) (a1_1 : Int) (a1_2 : Int) (a1_3 : Int) (a1_4 : Int) (a1_5 : Int) (a1_6 : Int) (a1_7 : Int) : Option (Int × Int × Int × Int × Int × Int × Int × Int × Bool) :=
 if (0 ≤ a0_0 ∧ a0_0 ≤ 65535) ∧ (0 ≤ a0_1 ∧ a0_1 ≤ 65535) ∧ (0 ≤ a0_2 ∧ a0_2 ≤ 65535) ∧ (0 ≤ a0_3 ∧ a0_3 ≤ 65535) ∧ (0 ≤ a0_4 ∧ a0_4 ≤ 65535) ∧ (0 ≤ a0_5 ∧ a0_5 ≤ 65535) ∧ (0 ≤ a0_6 ∧ a0_6 ≤ 65535) ∧ (0 ≤ a0_7 ∧ a0_7 ≤ 65535) ∧ (0 ≤ a1_0 ∧ a1_0 ≤ 65535) ∧ (0 ≤ a1_1 ∧ a1_1 ≤ 65535) ∧ (0 ≤ a1_2 ∧ a1_2 ≤ 65535) ∧ (0 ≤ a1_3 ∧ a1_3 ≤ 65535) ∧ (0 ≤ a1_4 ∧ a1_4 ≤ 65535) ∧ (0 ≤ a1_5 ∧ a1_5 ≤ 65535) ∧ (0 ≤ a1_6 ∧ a1_6 ≤ 65535) ∧ (0 ≤ a1_7 ∧ a1_7 ≤ 65535) then some ((a0_0 + a1_0) % 65536, (a0_1 + a1_1 + ((a0_0 + a1_0) / 65536)) % 65536, (a0_2 + a1_2 + ((a0_1 + a1_1 + ((a0_0 + a1_0) / 65536)) / 65536)) % 65536, (a0_3 + a1_3 + ((a0_2 + a1_2 + ((a0_1 + a1_1 + ((a0_0 + a1_0) / 65536)) / 65536)) / 65536)) % 65536, (a0_4 + a1_4 + ((a0_3 + a1_3 + ((a0_2 + a1_2 + ((a0_1 + a1_1 + ((a0_0 + a1_0) / 65536)) / 65536)) / 65536)) / 65536)) % 65536, (a0_5 + a1_5 + ((a0_4 + a1_4 + ((a0_3 + a1_3 + ((a0_2 + a1_2 + ((a0_1 + a1_1 + ((a0_0 + a1_0) / 65536)) / 65536)) / 65536)) / 65536)) / 65536)) % 65536, (a0_6 + a1_6 + ((a0_5 + a1_5 + ((a0_4 + a1_4 + ((a0_3 + a1_3 + ((a0_2 + a1_2 + ((a0_1 + a1_1 + ((a0_0 + a1_0) / 65536)) / 65536)) / 65536)) / 65536)) / 65536)) / 65536)) % 65536, (a0_7 + a1_7 + ((a0_6 + a1_6 + ((a0_5 + a1_5 + ((a0_4 + a1_4 + ((a0_3 + a1_3 + ((a0_2 + a1_2 + ((a0_1 + a1_1 + ((a0_0 + a1_0) / 65536)) / 65536)) / 65536)) / 65536)) / 65536)) / 65536)) / 65536)) % 65536, ((a0_7 + a1_7 + ((a0_6 + a1_6 + ((a0_5 + a1_5 + ((a0_4 + a1_4 + ((a0_3 + a1_3 + ((a0_2 + a1_2 + ((a0_1 + a1_1 + ((a0_0 + a1_0) / 65536)) / 65536)) / 65536)) / 65536)) / 65536)) / 65536)) / 65536)) / 65536) == 0) else none
theorem carry_bd {x y o : Int} (hx : 0 ≤ x ∧ x ≤ 65535) (hy : 0 ≤ y ∧ y ≤ 65535) (ho : 0 ≤ o ∧ o ≤ 1) : 0 ≤ (x + y + o) / 65536 ∧ (x + y + o) / 65536 ≤ 1 := by omega
theorem carry_bd0 {x y : Int} (hx : 0 ≤ x ∧ x ≤ 65535) (hy : 0 ≤ y ∧ y ≤ 65535) : 0 ≤ (x + y) / 65536 ∧ (x + y) / 65536 ≤ 1 := by omega
set_option maxHeartbeats 8000000 in
theorem add_ok (x0 x1 x2 x3 x4 x5 x6 x7 y0 y1 y2 y3 y4 y5 y6 y7 o1 o2 o3 o4 o5 o6 o7 o8 : Int) (hx0 : 0 ≤ x0 ∧ x0 ≤ 65535) (hy0 : 0 ≤ y0 ∧ y0 ≤ 65535) (hx1 : 0 ≤ x1 ∧ x1 ≤ 65535) (hy1 : 0 ≤ y1 ∧ y1 ≤ 65535) (hx2 : 0 ≤ x2 ∧ x2 ≤ 65535) (hy2 : 0 ≤ y2 ∧ y2 ≤ 65535) (hx3 : 0 ≤ x3 ∧ x3 ≤ 65535) (hy3 : 0 ≤ y3 ∧ y3 ≤ 65535) (hx4 : 0 ≤ x4 ∧ x4 ≤ 65535) (hy4 : 0 ≤ y4 ∧ y4 ≤ 65535) (hx5 : 0 ≤ x5 ∧ x5 ≤ 65535) (hy5 : 0 ≤ y5 ∧ y5 ≤ 65535) (hx6 : 0 ≤ x6 ∧ x6 ≤ 65535) (hy6 : 0 ≤ y6 ∧ y6 ≤ 65535) (hx7 : 0 ≤ x7 ∧ x7 ≤ 65535) (hy7 : 0 ≤ y7 ∧ y7 ≤ 65535) (ho1 : 0 ≤ o1 ∧ o1 ≤ 1) (e1 : (x0 + y0) / 65536 = o1) (ho2 : 0 ≤ o2 ∧ o2 ≤ 1) (e2 : (x1 + y1 + o1) / 65536 = o2) (ho3 : 0 ≤ o3 ∧ o3 ≤ 1) (e3 : (x2 + y2 + o2) / 65536 = o3) (ho4 : 0 ≤ o4 ∧ o4 ≤ 1) (e4 : (x3 + y3 + o3) / 65536 = o4) (ho5 : 0 ≤ o5 ∧ o5 ≤ 1) (e5 : (x4 + y4 + o4) / 65536 = o5) (ho6 : 0 ≤ o6 ∧ o6 ≤ 1) (e6 : (x5 + y5 + o5) / 65536 = o6) (ho7 : 0 ≤ o7 ∧ o7 ≤ 1) (e7 : (x6 + y6 + o6) / 65536 = o7) (ho8 : 0 ≤ o8 ∧ o8 ≤ 1) (e8 : (x7 + y7 + o7) / 65536 = o8) (w : World) :
  Calls Tryd.prog 25 #[.agg #[.int .u32 x0, .int .u32 x1, .int .u32 x2, .int .u32 x3, .int .u32 x4, .int .u32 x5, .int .u32 x6, .int .u32 x7], .agg #[.int .u32 y0, .int .u32 y1, .int .u32 y2, .int .u32 y3, .int .u32 y4, .int .u32 y5, .int .u32 y6, .int .u32 y7]] w fun e w' => e = .returned (.tuple #[.agg #[.int .u32 ((x0 + y0) % 65536), .int .u32 ((x1 + y1 + o1) % 65536), .int .u32 ((x2 + y2 + o2) % 65536), .int .u32 ((x3 + y3 + o3) % 65536), .int .u32 ((x4 + y4 + o4) % 65536), .int .u32 ((x5 + y5 + o5) % 65536), .int .u32 ((x6 + y6 + o6) % 65536), .int .u32 ((x7 + y7 + o7) % 65536)], .bool (o8 == 0)]) ∧ Below w.heap.size w w' := by
 go_enter Tryd.func25, Tryd.ntmps25
 go_wp2_with (first | ((with_reducible refine gate_dst (N := 2) rfl ?_); (try (refine gate_guard (by rfl) ?_; dsimp only)); refine box_event ?hg (N := 2) ?hd (cs := #[.int .u32 x0, .int .u32 x1, .int .u32 x2, .int .u32 x3, .int .u32 x4, .int .u32 x5, .int .u32 x6, .int .u32 x7]) (t := 61) ?hr ?_; (case hd => rfl); (case hg => rfl); (case hr => first | (go_simp; done) | (go_simp; rfl)); intro gb2 hg w2 hbox hb; have BK2 := Aside0.mk hbox; have HB := Aside0.mk hb; have GE2 := Aside0.mk (Nat.le_of_eq hg.symm : w.heap.size ≤ gb2); clear hbox hb hg) | ((with_reducible refine gate_dst (N := 3) rfl ?_); (try (refine gate_guard (by rfl) ?_; dsimp only)); refine box_event ?hg (N := 3) ?hd (cs := #[.int .u32 y0, .int .u32 y1, .int .u32 y2, .int .u32 y3, .int .u32 y4, .int .u32 y5, .int .u32 y6, .int .u32 y7]) (t := 61) ?hr ?_; (case hd => rfl); (case hg => rfl); (case hr => first | (go_simp; done) | (go_simp; rfl)); intro gb3 hg w3 hbox hb; have n2_ := Aside0.mk (blk_below BK2.out hb); have NB2_3 := Aside0.mk (by rw [hg]; exact Nat.ne_of_lt (blk_lt BK2.out) : gb2 ≠ gb3); have m_ := Aside0.mk (below_step HB.out hb); have GE3 := Aside0.mk (Nat.le_trans (below_size HB.out) (Nat.le_of_eq hg.symm) : w.heap.size ≤ gb3); clear HB; have HB := m_; clear m_; clear BK2; have BK2 := n2_; clear n2_; have BK3 := Aside0.mk hbox; clear hbox hb hg) | ((with_reducible refine gate_dst (N := 4) rfl ?_); (try (refine gate_guard (by rfl) ?_; dsimp only)); refine box_event ?hg (N := 4) ?hd (cs := #[.int .u32 0, .int .u32 0, .int .u32 0, .int .u32 0, .int .u32 0, .int .u32 0, .int .u32 0, .int .u32 0]) (t := 61) ?hr ?_; (case hd => rfl); (case hg => rfl); (case hr => first | (go_simp; done) | (go_simp; rfl)); intro gb4 hg w4 hbox hb; have n2_ := Aside0.mk (blk_below BK2.out hb); have NB2_4 := Aside0.mk (by rw [hg]; exact Nat.ne_of_lt (blk_lt BK2.out) : gb2 ≠ gb4); have n3_ := Aside0.mk (blk_below BK3.out hb); have NB3_4 := Aside0.mk (by rw [hg]; exact Nat.ne_of_lt (blk_lt BK3.out) : gb3 ≠ gb4); have m_ := Aside0.mk (below_step HB.out hb); have GE4 := Aside0.mk (Nat.le_trans (below_size HB.out) (Nat.le_of_eq hg.symm) : w.heap.size ≤ gb4); clear HB; have HB := m_; clear m_; clear BK2; have BK2 := n2_; clear n2_; clear BK3; have BK3 := n3_; clear n3_; have BK4 := Aside0.mk hbox; clear hbox hb hg) | ((with_reducible refine gate_dst (N := 6) rfl ?_); (try (refine gate_guard (by rfl) ?_; dsimp only)); refine box_event ?hg (N := 6) ?hd (cs := #[.int .u32 0, .int .u32 0, .int .u32 0, .int .u32 0, .int .u32 0, .int .u32 0, .int .u32 0, .int .u32 0]) (t := 61) ?hr ?_; (case hd => rfl); (case hg => rfl); (case hr => first | (go_simp; done) | (go_simp; rfl)); intro gb6 hg w6 hbox hb; have n2_ := Aside0.mk (blk_below BK2.out hb); have NB2_6 := Aside0.mk (by rw [hg]; exact Nat.ne_of_lt (blk_lt BK2.out) : gb2 ≠ gb6); have n3_ := Aside0.mk (blk_below BK3.out hb); have NB3_6 := Aside0.mk (by rw [hg]; exact Nat.ne_of_lt (blk_lt BK3.out) : gb3 ≠ gb6); have n4_ := Aside0.mk (blk_below BK4.out hb); have NB4_6 := Aside0.mk (by rw [hg]; exact Nat.ne_of_lt (blk_lt BK4.out) : gb4 ≠ gb6); have m_ := Aside0.mk (below_step HB.out hb); have GE6 := Aside0.mk (Nat.le_trans (below_size HB.out) (Nat.le_of_eq hg.symm) : w.heap.size ≤ gb6); clear HB; have HB := m_; clear m_; clear BK2; have BK2 := n2_; clear n2_; clear BK3; have BK3 := n3_; clear n3_; clear BK4; have BK4 := n4_; clear n4_; have BK6 := Aside0.mk hbox; clear hbox hb hg))
 have hc2_0 : w6.cell? ⟨gb2, 0, none⟩ = some (.int .u32 x0) := (blk_cell BK2.out 0).trans rfl
 have hf2_0 := blk_frozen BK2.out 0
 have hc2_1 : w6.cell? ⟨gb2, 1, none⟩ = some (.int .u32 x1) := (blk_cell BK2.out 1).trans rfl
 have hf2_1 := blk_frozen BK2.out 1
 have hc2_2 : w6.cell? ⟨gb2, 2, none⟩ = some (.int .u32 x2) := (blk_cell BK2.out 2).trans rfl
 have hf2_2 := blk_frozen BK2.out 2
 have hc2_3 : w6.cell? ⟨gb2, 3, none⟩ = some (.int .u32 x3) := (blk_cell BK2.out 3).trans rfl
 have hf2_3 := blk_frozen BK2.out 3
 have hc2_4 : w6.cell? ⟨gb2, 4, none⟩ = some (.int .u32 x4) := (blk_cell BK2.out 4).trans rfl
 have hf2_4 := blk_frozen BK2.out 4
 have hc2_5 : w6.cell? ⟨gb2, 5, none⟩ = some (.int .u32 x5) := (blk_cell BK2.out 5).trans rfl
 have hf2_5 := blk_frozen BK2.out 5
 have hc2_6 : w6.cell? ⟨gb2, 6, none⟩ = some (.int .u32 x6) := (blk_cell BK2.out 6).trans rfl
 have hf2_6 := blk_frozen BK2.out 6
 have hc2_7 : w6.cell? ⟨gb2, 7, none⟩ = some (.int .u32 x7) := (blk_cell BK2.out 7).trans rfl
 have hf2_7 := blk_frozen BK2.out 7
 have hc3_0 : w6.cell? ⟨gb3, 0, none⟩ = some (.int .u32 y0) := (blk_cell BK3.out 0).trans rfl
 have hf3_0 := blk_frozen BK3.out 0
 have hc3_1 : w6.cell? ⟨gb3, 1, none⟩ = some (.int .u32 y1) := (blk_cell BK3.out 1).trans rfl
 have hf3_1 := blk_frozen BK3.out 1
 have hc3_2 : w6.cell? ⟨gb3, 2, none⟩ = some (.int .u32 y2) := (blk_cell BK3.out 2).trans rfl
 have hf3_2 := blk_frozen BK3.out 2
 have hc3_3 : w6.cell? ⟨gb3, 3, none⟩ = some (.int .u32 y3) := (blk_cell BK3.out 3).trans rfl
 have hf3_3 := blk_frozen BK3.out 3
 have hc3_4 : w6.cell? ⟨gb3, 4, none⟩ = some (.int .u32 y4) := (blk_cell BK3.out 4).trans rfl
 have hf3_4 := blk_frozen BK3.out 4
 have hc3_5 : w6.cell? ⟨gb3, 5, none⟩ = some (.int .u32 y5) := (blk_cell BK3.out 5).trans rfl
 have hf3_5 := blk_frozen BK3.out 5
 have hc3_6 : w6.cell? ⟨gb3, 6, none⟩ = some (.int .u32 y6) := (blk_cell BK3.out 6).trans rfl
 have hf3_6 := blk_frozen BK3.out 6
 have hc3_7 : w6.cell? ⟨gb3, 7, none⟩ = some (.int .u32 y7) := (blk_cell BK3.out 7).trans rfl
 have hf3_7 := blk_frozen BK3.out 7
 have hc4_0 : w6.cell? ⟨gb4, 0, none⟩ = some (.int .u32 0) := (blk_cell BK4.out 0).trans rfl
 have hf4_0 := blk_frozen BK4.out 0
 have hc4_1 : w6.cell? ⟨gb4, 1, none⟩ = some (.int .u32 0) := (blk_cell BK4.out 1).trans rfl
 have hf4_1 := blk_frozen BK4.out 1
 have hc4_2 : w6.cell? ⟨gb4, 2, none⟩ = some (.int .u32 0) := (blk_cell BK4.out 2).trans rfl
 have hf4_2 := blk_frozen BK4.out 2
 have hc4_3 : w6.cell? ⟨gb4, 3, none⟩ = some (.int .u32 0) := (blk_cell BK4.out 3).trans rfl
 have hf4_3 := blk_frozen BK4.out 3
 have hc4_4 : w6.cell? ⟨gb4, 4, none⟩ = some (.int .u32 0) := (blk_cell BK4.out 4).trans rfl
 have hf4_4 := blk_frozen BK4.out 4
 have hc4_5 : w6.cell? ⟨gb4, 5, none⟩ = some (.int .u32 0) := (blk_cell BK4.out 5).trans rfl
 have hf4_5 := blk_frozen BK4.out 5
 have hc4_6 : w6.cell? ⟨gb4, 6, none⟩ = some (.int .u32 0) := (blk_cell BK4.out 6).trans rfl
 have hf4_6 := blk_frozen BK4.out 6
 have hc4_7 : w6.cell? ⟨gb4, 7, none⟩ = some (.int .u32 0) := (blk_cell BK4.out 7).trans rfl
 have hf4_7 := blk_frozen BK4.out 7
 have hc6_0 : w6.cell? ⟨gb6, 0, none⟩ = some (.int .u32 0) := (blk_cell BK6.out 0).trans rfl
 have hf6_0 := blk_frozen BK6.out 0
 have hc6_1 : w6.cell? ⟨gb6, 1, none⟩ = some (.int .u32 0) := (blk_cell BK6.out 1).trans rfl
 have hf6_1 := blk_frozen BK6.out 1
 have hc6_2 : w6.cell? ⟨gb6, 2, none⟩ = some (.int .u32 0) := (blk_cell BK6.out 2).trans rfl
 have hf6_2 := blk_frozen BK6.out 2
 have hc6_3 : w6.cell? ⟨gb6, 3, none⟩ = some (.int .u32 0) := (blk_cell BK6.out 3).trans rfl
 have hf6_3 := blk_frozen BK6.out 3
 have hc6_4 : w6.cell? ⟨gb6, 4, none⟩ = some (.int .u32 0) := (blk_cell BK6.out 4).trans rfl
 have hf6_4 := blk_frozen BK6.out 4
 have hc6_5 : w6.cell? ⟨gb6, 5, none⟩ = some (.int .u32 0) := (blk_cell BK6.out 5).trans rfl
 have hf6_5 := blk_frozen BK6.out 5
 have hc6_6 : w6.cell? ⟨gb6, 6, none⟩ = some (.int .u32 0) := (blk_cell BK6.out 6).trans rfl
 have hf6_6 := blk_frozen BK6.out 6
 have hc6_7 : w6.cell? ⟨gb6, 7, none⟩ = some (.int .u32 0) := (blk_cell BK6.out 7).trans rfl
 have hf6_7 := blk_frozen BK6.out 7
 have nb2_3 := NB2_3.out
 have nc2_3 := Ne.symm NB2_3.out
 have nb2_4 := NB2_4.out
 have nc2_4 := Ne.symm NB2_4.out
 have nb3_4 := NB3_4.out
 have nc3_4 := Ne.symm NB3_4.out
 have nb2_6 := NB2_6.out
 have nc2_6 := Ne.symm NB2_6.out
 have nb3_6 := NB3_6.out
 have nc3_6 := Ne.symm NB3_6.out
 have nb4_6 := NB4_6.out
 have nc4_6 := Ne.symm NB4_6.out
 refine wp_loop_rounds 9 ?_
 rw [rounds_succ]
 go_wp2
 repeat (go_quiet (fail); try go_wp2)
 simp only [e1]
 rw [rounds_succ]
 go_wp2
 repeat (go_quiet (fail); try go_wp2)
 simp only [e2]
 rw [rounds_succ]
 go_wp2
 repeat (go_quiet (fail); try go_wp2)
 simp only [e3]
 rw [rounds_succ]
 go_wp2
 repeat (go_quiet (fail); try go_wp2)
 simp only [e4]
 rw [rounds_succ]
 go_wp2
 repeat (go_quiet (fail); try go_wp2)
 simp only [e5]
 rw [rounds_succ]
 go_wp2
 repeat (go_quiet (fail); try go_wp2)
 simp only [e6]
 rw [rounds_succ]
 go_wp2
 repeat (go_quiet (fail); try go_wp2)
 simp only [e7]
 rw [rounds_succ]
 go_wp2
 repeat (go_quiet (fail); try go_wp2)
 simp only [e8]
 rw [rounds_succ]
 go_wp2
 refine bodyPost_ret (results_ct (p := 4) (u := 5) (ty := 61) rfl _ _ gb4 61 #[.int .u32 ((x0 + y0) % 65536), .int .u32 ((x1 + y1 + o1) % 65536), .int .u32 ((x2 + y2 + o2) % 65536), .int .u32 ((x3 + y3 + o3) % 65536), .int .u32 ((x4 + y4 + o4) % 65536), .int .u32 ((x5 + y5 + o5) % 65536), .int .u32 ((x6 + y6 + o6) % 65536), .int .u32 ((x7 + y7 + o7) % 65536)] (0, 0) _ rfl ?hg Tryd.underlying61 rfl (by kernel_rfl)) rfl ⟨rfl, ?_⟩
 case hg =>
  refine blk_put (cs := #[.int .u32 ((x0 + y0) % 65536), .int .u32 ((x1 + y1 + o1) % 65536), .int .u32 ((x2 + y2 + o2) % 65536), .int .u32 ((x3 + y3 + o3) % 65536), .int .u32 ((x4 + y4 + o4) % 65536), .int .u32 ((x5 + y5 + o5) % 65536), .int .u32 ((x6 + y6 + o6) % 65536), .int .u32 0]) ?_ 7 _ rfl
  refine blk_put (cs := #[.int .u32 ((x0 + y0) % 65536), .int .u32 ((x1 + y1 + o1) % 65536), .int .u32 ((x2 + y2 + o2) % 65536), .int .u32 ((x3 + y3 + o3) % 65536), .int .u32 ((x4 + y4 + o4) % 65536), .int .u32 ((x5 + y5 + o5) % 65536), .int .u32 0, .int .u32 0]) ?_ 6 _ rfl
  refine blk_put (cs := #[.int .u32 ((x0 + y0) % 65536), .int .u32 ((x1 + y1 + o1) % 65536), .int .u32 ((x2 + y2 + o2) % 65536), .int .u32 ((x3 + y3 + o3) % 65536), .int .u32 ((x4 + y4 + o4) % 65536), .int .u32 0, .int .u32 0, .int .u32 0]) ?_ 5 _ rfl
  refine blk_put (cs := #[.int .u32 ((x0 + y0) % 65536), .int .u32 ((x1 + y1 + o1) % 65536), .int .u32 ((x2 + y2 + o2) % 65536), .int .u32 ((x3 + y3 + o3) % 65536), .int .u32 0, .int .u32 0, .int .u32 0, .int .u32 0]) ?_ 4 _ rfl
  refine blk_put (cs := #[.int .u32 ((x0 + y0) % 65536), .int .u32 ((x1 + y1 + o1) % 65536), .int .u32 ((x2 + y2 + o2) % 65536), .int .u32 0, .int .u32 0, .int .u32 0, .int .u32 0, .int .u32 0]) ?_ 3 _ rfl
  refine blk_put (cs := #[.int .u32 ((x0 + y0) % 65536), .int .u32 ((x1 + y1 + o1) % 65536), .int .u32 0, .int .u32 0, .int .u32 0, .int .u32 0, .int .u32 0, .int .u32 0]) ?_ 2 _ rfl
  refine blk_put (cs := #[.int .u32 ((x0 + y0) % 65536), .int .u32 0, .int .u32 0, .int .u32 0, .int .u32 0, .int .u32 0, .int .u32 0, .int .u32 0]) ?_ 1 _ rfl
  refine blk_put (cs := #[.int .u32 0, .int .u32 0, .int .u32 0, .int .u32 0, .int .u32 0, .int .u32 0, .int .u32 0, .int .u32 0]) ?_ 0 _ rfl
  refine blk_far ?_ NB4_6.out _
  refine blk_drewN ?_ _
  refine blk_far ?_ NB4_6.out _
  refine blk_drewN ?_ _
  refine blk_far ?_ NB4_6.out _
  refine blk_drewN ?_ _
  refine blk_far ?_ NB4_6.out _
  refine blk_drewN ?_ _
  refine blk_far ?_ NB4_6.out _
  refine blk_drewN ?_ _
  refine blk_far ?_ NB4_6.out _
  refine blk_drewN ?_ _
  refine blk_far ?_ NB4_6.out _
  refine blk_drewN ?_ _
  refine blk_far ?_ NB4_6.out _
  refine blk_drewN ?_ _
  exact BK4.out
 refine below_set ?_ GE4.out
 refine below_set ?_ GE4.out
 refine below_set ?_ GE4.out
 refine below_set ?_ GE4.out
 refine below_set ?_ GE4.out
 refine below_set ?_ GE4.out
 refine below_set ?_ GE4.out
 refine below_set ?_ GE4.out
 refine below_set ?_ GE6.out
 refine pw_below_drewN ?_ _
 refine below_set ?_ GE6.out
 refine pw_below_drewN ?_ _
 refine below_set ?_ GE6.out
 refine pw_below_drewN ?_ _
 refine below_set ?_ GE6.out
 refine pw_below_drewN ?_ _
 refine below_set ?_ GE6.out
 refine pw_below_drewN ?_ _
 refine below_set ?_ GE6.out
 refine pw_below_drewN ?_ _
 refine below_set ?_ GE6.out
 refine pw_below_drewN ?_ _
 refine below_set ?_ GE6.out
 refine pw_below_drewN ?_ _
 exact HB.out
theorem arrearsref03_Add.calls (a0_0 : Int) (a0_1 : Int) (a0_2 : Int) (a0_3 : Int) (a0_4 : Int) (a0_5 : Int) (a0_6 : Int) (a0_7 : Int) (a1_0 : Int) (a1_1 : Int) (a1_2 : Int) (a1_3 : Int) (a1_4 : Int) (a1_5 : Int) (a1_6 : Int) (a1_7 : Int) (r1 : Int) (r2 : Int) (r3 : Int) (r4 : Int) (r5 : Int) (r6 : Int) (r7 : Int) (r8 : Int) (r9 : Bool) (w : World) (h : arrearsref03_Add.f a0_0 a0_1 a0_2 a0_3 a0_4 a0_5 a0_6 a0_7 a1_0 a1_1 a1_2 a1_3 a1_4 a1_5 a1_6 a1_7 = some (r1, r2, r3, r4, r5, r6, r7, r8, r9)) :
  Calls Tryd.prog 25 #[.agg #[.int .u32 a0_0, .int .u32 a0_1, .int .u32 a0_2, .int .u32 a0_3, .int .u32 a0_4, .int .u32 a0_5, .int .u32 a0_6, .int .u32 a0_7], .agg #[.int .u32 a1_0, .int .u32 a1_1, .int .u32 a1_2, .int .u32 a1_3, .int .u32 a1_4, .int .u32 a1_5, .int .u32 a1_6, .int .u32 a1_7]] w fun e w' => e = .returned (.tuple #[.agg #[.int .u32 r1, .int .u32 r2, .int .u32 r3, .int .u32 r4, .int .u32 r5, .int .u32 r6, .int .u32 r7, .int .u32 r8], .bool r9]) ∧ Below w.heap.size w w' := by
 unfold arrearsref03_Add.f at h
 split at h
 ·
  rename_i hb
  obtain ⟨h0, h1, h2, h3, h4, h5, h6, h7, g0, g1, g2, g3, g4, g5, g6, g7⟩ := hb
  simp only [Option.some.injEq, Prod.mk.injEq] at h
  obtain ⟨rfl, rfl, rfl, rfl, rfl, rfl, rfl, rfl, rfl⟩ := h
  have k1 := carry_bd0 h0 g0
  have k2 := carry_bd h1 g1 k1
  have k3 := carry_bd h2 g2 k2
  have k4 := carry_bd h3 g3 k3
  have k5 := carry_bd h4 g4 k4
  have k6 := carry_bd h5 g5 k5
  have k7 := carry_bd h6 g6 k6
  have k8 := carry_bd h7 g7 k7
  exact add_ok _ _ _ _ _ _ _ _ _ _ _ _ _ _ _ _ _ _ _ _ _ _ _ _ h0 g0 h1 g1 h2 g2 h3 g3 h4 g4 h5 g5 h6 g6 h7 g7 k1 rfl k2 rfl k3 rfl k4 rfl k5 rfl k6 rfl k7 rfl k8 rfl w
 ·
  exact absurd h (by simp)


end Go.Proofs.YtldicnmpegkicaaDoor.PYieldDays
