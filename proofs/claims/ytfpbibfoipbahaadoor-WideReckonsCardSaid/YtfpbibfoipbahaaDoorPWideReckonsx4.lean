-- Printed by a wrapper of this session's round the kit's print.py; Lean checks it.
import Derived.Test.YtfpbibfoipbahaaDoorPWideReckonsx0
import Derived.Test.YtfpbibfoipbahaaDoorPWideReckonsx3
namespace Go.Proofs.YtfpbibfoipbahaaDoor.PWideReckons
open Go.RowKit Go.Proofs.YtfpbibfoipbahaaDoorW.PrintWords Go.Proofs.YtfpbibfoipbahaaDoorW.PrintLast Go.Proofs.YtfpbibfoipbahaaDoorW.PrintMore
attribute [local go_sem] max2_int min2_int max_two min_two max_three min_three max_four min_four   -- for this text's walks alone
set_option linter.unusedVariables false
set_option linter.unusedSimpArgs false

/-! ### arrearsref03_Mul: function 21 -/
section
open Go.Proofs.YtfpbibfoipbahaaDoor.M
def arrearsref03_Mul.f (a0 a1 : Int) : Option (Int × Int × Int × Int × Int × Int × Int × Int) :=
  if (0 ≤ a0 ∧ a0 ≤ 18446744073709551615) ∧ (0 ≤ a1 ∧ a1 ≤ 18446744073709551615) then some (((dg (a0.toNat * a1.toNat) 0 : Nat) : Int), ((dg (a0.toNat * a1.toNat) 1 : Nat) : Int), ((dg (a0.toNat * a1.toNat) 2 : Nat) : Int), ((dg (a0.toNat * a1.toNat) 3 : Nat) : Int), ((dg (a0.toNat * a1.toNat) 4 : Nat) : Int), ((dg (a0.toNat * a1.toNat) 5 : Nat) : Int), ((dg (a0.toNat * a1.toNat) 6 : Nat) : Int), ((dg (a0.toNat * a1.toNat) 7 : Nat) : Int)) else none
def cells9 (S : Nat → Nat) : Array Value := #[.int .u64 (S 0 : Nat), .int .u64 (S 1 : Nat), .int .u64 (S 2 : Nat), .int .u64 (S 3 : Nat), .int .u64 (S 4 : Nat), .int .u64 (S 5 : Nat), .int .u64 (S 6 : Nat), .int .u64 (S 7 : Nat), .int .u64 (S 8 : Nat)]
theorem cells9_get (S : Nat → Nat) (k : Nat) (hk : k < 9) : (cells9 S)[k]? = some (.int .u64 (S k : Nat)) := by
  have h : k = 0 ∨ k = 1 ∨ k = 2 ∨ k = 3 ∨ k = 4 ∨ k = 5 ∨ k = 6 ∨ k = 7 ∨ k = 8 := by omega
  rcases h with rfl | rfl | rfl | rfl | rfl | rfl | rfl | rfl | rfl <;> rfl
theorem cells9_set (S S' : Nat → Nat) (k : Nat) (hk : k < 9) (v : Int) (hv : v = (S' k : Nat)) (h : ∀ j, j ≠ k → S' j = S j) : (cells9 S).setIfInBounds k (.int .u64 v) = cells9 S' := by
  have hh : k = 0 ∨ k = 1 ∨ k = 2 ∨ k = 3 ∨ k = 4 ∨ k = 5 ∨ k = 6 ∨ k = 7 ∨ k = 8 := by omega
  subst hv
  unfold cells9
  rcases hh with rfl | rfl | rfl | rfl | rfl | rfl | rfl | rfl | rfl <;> simp (discharger := decide) [h]
theorem of_dg (a : Nat) (ha : a < 18446744073709551616) : arrearsref03_Of.f 0 (a : Int) = some (((dg a 0 : Nat) : Int), ((dg a 1 : Nat) : Int), ((dg a 2 : Nat) : Int), ((dg a 3 : Nat) : Int), ((dg a 4 : Nat) : Int), ((dg a 5 : Nat) : Int), ((dg a 6 : Nat) : Int), ((dg a 7 : Nat) : Int)) := by
  unfold arrearsref03_Of.f
  rw [if_pos (by omega)]
  simp only [dg, Option.some.injEq, Prod.mk.injEq, Nat.reducePow, Nat.div_one]
  refine ⟨?_, ?_, ?_, ?_, ?_, ?_, ?_, ?_⟩ <;> omega
set_option maxHeartbeats 4000000 in
set_option maxRecDepth 100000 in
theorem mulr9 (ops : Array Oper) (hops : Tryd.f21.body.bind (findR 9) = some (ops, true)) (Q : Exit → Act → World → Prop) (w : World) (gx gy gs i j k : Nat) (s xi yj : Int) (ds : _) (t0 t1 t2 t3 t4 t10 t11 t12 t13 t14 t15 t16 t17 t18 t19 t20 t21 t22 t23 t24 t25 t26 t27 t28 t29 t30 t31 t32 t33 t34 t35 t36 t37 t38 t39 t40 t41 t42 t43 t44 t45 t46 t47 t48 t49 t50 t51 t52 t53 t54 t55 t56 t57 t58 t59 t60 t61 t62 t63 t64 t65 t66 t67 t68 t69 t70 t71 t72 t73 t74 t75 t76 t77 : Value)
    (hQ : ∀ c a d v w, Q (.panic c) (Act.put a d v) w → Q (.panic c) a w) (hfz : w.frozen? ⟨gs, k, none⟩ = false) (hxi : 0 ≤ xi ∧ xi ≤ 65535) (hyj : 0 ≤ yj ∧ yj ≤ 65535) (hs0 : 0 ≤ s ∧ s ≤ 4294967296) (p : Int) (hp : xi * yj = p) (hp0 : 0 ≤ p ∧ p ≤ 4294836225) (ii jj : Int) (hii : ii = (i : Int)) (hjj : jj = (j : Int)) (hi : i < 4) (hj : j < 4) (hk : i + j = k) (hx : w.cell? ⟨gx, i, none⟩ = some (.int .u32 xi)) (hy : w.cell? ⟨gy, j, none⟩ = some (.int .u32 yj)) (hs : w.cell? ⟨gs, k, none⟩ = some (.int .u64 s))
    (H : ∀ (u26 u27 u28 u29 u30 u31 u32 u33 u34 u35 u36 u37 u38 u39 u40 u41 u42 : Value), Q .normal { tmps := (List.toArray (t0 :: t1 :: t2 :: t3 :: t4 :: Value.pointer (some ⟨gx, 0, none⟩) :: Value.pointer (some ⟨gy, 0, none⟩) :: Value.pointer (some ⟨gs, 0, none⟩) :: Value.int IntKind.i64 ii :: Value.int IntKind.i64 jj :: t10 :: t11 :: t12 :: t13 :: t14 :: t15 :: t16 :: t17 :: t18 :: t19 :: t20 :: t21 :: t22 :: t23 :: t24 :: t25 :: u26 :: u27 :: u28 :: u29 :: u30 :: u31 :: u32 :: u33 :: u34 :: u35 :: u36 :: u37 :: u38 :: u39 :: u40 :: u41 :: u42 :: t43 :: t44 :: t45 :: t46 :: t47 :: t48 :: t49 :: t50 :: t51 :: t52 :: t53 :: t54 :: t55 :: t56 :: t57 :: t58 :: t59 :: t60 :: t61 :: t62 :: t63 :: t64 :: t65 :: t66 :: t67 :: t68 :: t69 :: t70 :: t71 :: t72 :: t73 :: t74 :: t75 :: t76 :: t77 :: [])), defers := ds } (w.setCell ⟨gs, k, none⟩ (.int .u64 (s + p % 65536))).drew) :
    Code.wp Tryd.prog (.region 9 ops true) Q { tmps := (List.toArray (t0 :: t1 :: t2 :: t3 :: t4 :: Value.pointer (some ⟨gx, 0, none⟩) :: Value.pointer (some ⟨gy, 0, none⟩) :: Value.pointer (some ⟨gs, 0, none⟩) :: Value.int IntKind.i64 ii :: Value.int IntKind.i64 jj :: t10 :: t11 :: t12 :: t13 :: t14 :: t15 :: t16 :: t17 :: t18 :: t19 :: t20 :: t21 :: t22 :: t23 :: t24 :: t25 :: t26 :: t27 :: t28 :: t29 :: t30 :: t31 :: t32 :: t33 :: t34 :: t35 :: t36 :: t37 :: t38 :: t39 :: t40 :: t41 :: t42 :: t43 :: t44 :: t45 :: t46 :: t47 :: t48 :: t49 :: t50 :: t51 :: t52 :: t53 :: t54 :: t55 :: t56 :: t57 :: t58 :: t59 :: t60 :: t61 :: t62 :: t63 :: t64 :: t65 :: t66 :: t67 :: t68 :: t69 :: t70 :: t71 :: t72 :: t73 :: t74 :: t75 :: t76 :: t77 :: [])), defers := ds } w := by
  have hkk : wrap64 ((i : Int) + j) = (k : Int) := by subst hk; unfold wrap64; omega
  subst hii hjj
  have e1 : IntKind.u64.wrap xi = xi := by rw [IntKind.wrap_u64]; omega
  have e2 : IntKind.u64.wrap yj = yj := by rw [IntKind.wrap_u64]; omega
  have e3 : IntKind.u64.wrap p = p := by rw [IntKind.wrap_u64]; omega
  have e5 : Int.tmod p 65536 = p % 65536 := Int.tmod_eq_emod_of_nonneg hp0.1
  have e6 : IntKind.u64.wrap (s + p % 65536) = s + p % 65536 := by rw [IntKind.wrap_u64]; omega
  have e7 : IntKind.u64.wrap (p % 65536) = p % 65536 := by rw [IntKind.wrap_u64]; omega
  have e4 : (w.frozen? ⟨gs, k, none⟩ = true) = False := by rw [hfz]; simp
  have c1 : ((k : Int) < 9) = True := eq_true (by omega)
  have c2 : ((i : Int) < 8) = True := eq_true (by omega)
  have c3 : ((j : Int) < 8) = True := eq_true (by omega)
  simp [Tryd.f21, findR] at hops
  subst hops
  refine start_ (n := 18) (S := fun w' => w'.cell? ⟨gs, k, none⟩ = some (.int .u64 s) ∧ w'.cell? ⟨gx, i, none⟩ = some (.int .u32 xi) ∧ w'.cell? ⟨gy, j, none⟩ = some (.int .u32 yj)) (ds := [17]) #[false, false, false, false, false, false, false, false, false, false, false, false, false, false, false, false, false, false] (by kernel_rfl) rfl rfl ⟨hs, hx, hy⟩ (fun hHeld => ?_)
  refine pure_ (i := 0) (N := some 26) (v := ?_) (a' := ?_) #[true, false, false, false, false, false, false, false, false, false, false, false, false, false, false, false, false, false] rfl rfl (by kernel_rfl) (fun c a w h => hQ c _ _ _ w h) (Or.inl ⟨by rfl, ?_⟩) ?_ ?_
  rotate_left
  · intro w'
    go_simp
    (try simp only [c1, c2, c3, if_true, if_pos trivial])
    with_reducible rfl
  rotate_left
  · simp only [Act.put, List.setIfInBounds_toArray, List.set_cons_zero, List.set_cons_succ, i64_w, i32_w, e1, e2, e3, hp, e5, e7, e6]
    rfl
  refine pure_ (i := 1) (N := some 27) (v := ?_) (a' := ?_) #[true, true, false, false, false, false, false, false, false, false, false, false, false, false, false, false, false, false] rfl rfl (by kernel_rfl) (fun c a w h => hQ c _ _ _ w h) (Or.inl ⟨by rfl, ?_⟩) ?_ ?_
  rotate_left
  · intro w'
    go_simp
    (try simp only [c1, c2, c3, if_true, if_pos trivial])
    with_reducible rfl
  rotate_left
  · simp only [Act.put, List.setIfInBounds_toArray, List.set_cons_zero, List.set_cons_succ, i64_w, i32_w, e1, e2, e3, hp, e5, e7, e6]
    rfl
  refine pure_ (i := 2) (N := some 28) (v := ?_) (a' := ?_) #[true, true, true, false, false, false, false, false, false, false, false, false, false, false, false, false, false, false] rfl rfl (by kernel_rfl) (fun c a w h => hQ c _ _ _ w h) (Or.inl ⟨by rfl, ?_⟩) ?_ ?_
  rotate_left
  · intro w'
    go_simp
    (try simp only [c1, c2, c3, if_true, if_pos trivial])
    with_reducible rfl
  rotate_left
  · simp only [Act.put, List.setIfInBounds_toArray, List.set_cons_zero, List.set_cons_succ, i64_w, i32_w, e1, e2, e3, hp, e5, e7, e6]
    rfl
  refine pure_ (i := 3) (N := some 29) (v := ?_) (a' := ?_) #[true, true, true, true, false, false, false, false, false, false, false, false, false, false, false, false, false, false] rfl rfl (by kernel_rfl) (fun c a w h => hQ c _ _ _ w h) (Or.inl ⟨by rfl, ?_⟩) ?_ ?_
  rotate_left
  · intro w'
    go_simp
    (try simp only [c1, c2, c3, if_true, if_pos trivial])
    with_reducible rfl
  rotate_left
  · simp only [Act.put, List.setIfInBounds_toArray, List.set_cons_zero, List.set_cons_succ, i64_w, i32_w, e1, e2, e3, hp, e5, e7, e6]
    rfl
  refine pure_ (i := 5) (N := some 31) (v := ?_) (a' := ?_) #[true, true, true, true, false, true, false, false, false, false, false, false, false, false, false, false, false, false] rfl rfl (by kernel_rfl) (fun c a w h => hQ c _ _ _ w h) (Or.inl ⟨by rfl, ?_⟩) ?_ ?_
  rotate_left
  · intro w'
    go_simp
    (try simp only [c1, c2, c3, if_true, if_pos trivial])
    with_reducible rfl
  rotate_left
  · simp only [Act.put, List.setIfInBounds_toArray, List.set_cons_zero, List.set_cons_succ, i64_w, i32_w, e1, e2, e3, hp, e5, e7, e6]
    rfl
  refine pure_ (i := 6) (N := some 32) (v := ?_) (a' := ?_) #[true, true, true, true, false, true, true, false, false, false, false, false, false, false, false, false, false, false] rfl rfl (by kernel_rfl) (fun c a w h => hQ c _ _ _ w h) (Or.inl ⟨by rfl, ?_⟩) ?_ ?_
  rotate_left
  · intro w'
    go_simp
    (try simp only [c1, c2, c3, if_true, if_pos trivial])
    with_reducible rfl
  rotate_left
  · simp only [Act.put, List.setIfInBounds_toArray, List.set_cons_zero, List.set_cons_succ, i64_w, i32_w, e1, e2, e3, hp, e5, e7, e6]
    rfl
  refine pure_ (i := 9) (N := some 35) (v := ?_) (a' := ?_) #[true, true, true, true, false, true, true, false, false, true, false, false, false, false, false, false, false, false] rfl rfl (by kernel_rfl) (fun c a w h => hQ c _ _ _ w h) (Or.inl ⟨by rfl, ?_⟩) ?_ ?_
  rotate_left
  · intro w'
    go_simp
    (try simp only [c1, c2, c3, if_true, if_pos trivial])
    with_reducible rfl
  rotate_left
  · simp only [Act.put, List.setIfInBounds_toArray, List.set_cons_zero, List.set_cons_succ, i64_w, i32_w, e1, e2, e3, hp, e5, e7, e6]
    rfl
  refine pure_ (i := 10) (N := some 36) (v := ?_) (a' := ?_) #[true, true, true, true, false, true, true, false, false, true, true, false, false, false, false, false, false, false] rfl rfl (by kernel_rfl) (fun c a w h => hQ c _ _ _ w h) (Or.inl ⟨by rfl, ?_⟩) ?_ ?_
  rotate_left
  · intro w'
    go_simp
    (try simp only [c1, c2, c3, if_true, if_pos trivial])
    with_reducible rfl
  rotate_left
  · simp only [Act.put, List.setIfInBounds_toArray, List.set_cons_zero, List.set_cons_succ, i64_w, i32_w, e1, e2, e3, hp, e5, e7, e6]
    rfl
  refine take_ (i := 4) (N := some 30) (v := ?_) (a' := ?_) #[true, true, true, true, true, true, true, false, false, true, true, false, false, false, false, false, false, false] rfl rfl (by kernel_rfl) (fun c a w h => hQ c _ _ _ w h) (Or.inl ⟨by rfl, ?_⟩) hHeld ?_ ?_
  rotate_left
  · intro w' s0
    go_simp
    (try simp only [c1, c2, c3, s0.1, s0.2.1, s0.2.2, if_true, if_pos trivial])
    with_reducible rfl
  rotate_left
  · simp only [Act.put, List.setIfInBounds_toArray, List.set_cons_zero, List.set_cons_succ, i64_w, i32_w, e1, e2, e3, hp, e5, e7, e6]
    rfl
  refine take_ (i := 7) (N := some 33) (v := ?_) (a' := ?_) #[true, true, true, true, true, true, true, true, false, true, true, false, false, false, false, false, false, false] rfl rfl (by kernel_rfl) (fun c a w h => hQ c _ _ _ w h) (Or.inl ⟨by rfl, ?_⟩) hHeld ?_ ?_
  rotate_left
  · intro w' s0
    go_simp
    (try simp only [c1, c2, c3, s0.1, s0.2.1, s0.2.2, if_true, if_pos trivial])
    with_reducible rfl
  rotate_left
  · simp only [Act.put, List.setIfInBounds_toArray, List.set_cons_zero, List.set_cons_succ, i64_w, i32_w, e1, e2, e3, hp, e5, e7, e6]
    rfl
  refine take_ (i := 11) (N := some 37) (v := ?_) (a' := ?_) #[true, true, true, true, true, true, true, true, false, true, true, true, false, false, false, false, false, false] rfl rfl (by kernel_rfl) (fun c a w h => hQ c _ _ _ w h) (Or.inl ⟨by rfl, ?_⟩) hHeld ?_ ?_
  rotate_left
  · intro w' s0
    go_simp
    (try simp only [c1, c2, c3, s0.1, s0.2.1, s0.2.2, if_true, if_pos trivial])
    with_reducible rfl
  rotate_left
  · simp only [Act.put, List.setIfInBounds_toArray, List.set_cons_zero, List.set_cons_succ, i64_w, i32_w, e1, e2, e3, hp, e5, e7, e6]
    rfl
  refine pure_ (i := 8) (N := some 34) (v := ?_) (a' := ?_) #[true, true, true, true, true, true, true, true, true, true, true, true, false, false, false, false, false, false] rfl rfl (by kernel_rfl) (fun c a w h => hQ c _ _ _ w h) (Or.inl ⟨by rfl, ?_⟩) ?_ ?_
  rotate_left
  · intro w'
    go_simp
    (try simp only [c1, c2, c3, if_true, if_pos trivial])
    with_reducible rfl
  rotate_left
  · simp only [Act.put, List.setIfInBounds_toArray, List.set_cons_zero, List.set_cons_succ, i64_w, i32_w, e1, e2, e3, hp, e5, e7, e6]
    rfl
  refine pure_ (i := 12) (N := some 38) (v := ?_) (a' := ?_) #[true, true, true, true, true, true, true, true, true, true, true, true, true, false, false, false, false, false] rfl rfl (by kernel_rfl) (fun c a w h => hQ c _ _ _ w h) (Or.inl ⟨by rfl, ?_⟩) ?_ ?_
  rotate_left
  · intro w'
    go_simp
    (try simp only [c1, c2, c3, if_true, if_pos trivial])
    with_reducible rfl
  rotate_left
  · simp only [Act.put, List.setIfInBounds_toArray, List.set_cons_zero, List.set_cons_succ, i64_w, i32_w, e1, e2, e3, hp, e5, e7, e6]
    rfl
  refine pure_ (i := 13) (N := some 39) (v := ?_) (a' := ?_) #[true, true, true, true, true, true, true, true, true, true, true, true, true, true, false, false, false, false] rfl rfl (by kernel_rfl) (fun c a w h => hQ c _ _ _ w h) (Or.inl ⟨by rfl, ?_⟩) ?_ ?_
  rotate_left
  · intro w'
    go_simp
    (try simp only [c1, c2, c3, if_true, if_pos trivial])
    with_reducible rfl
  rotate_left
  · simp only [Act.put, List.setIfInBounds_toArray, List.set_cons_zero, List.set_cons_succ, i64_w, i32_w, e1, e2, e3, hp, e5, e7, e6]
    rfl
  refine pure_ (i := 14) (N := some 40) (v := ?_) (a' := ?_) #[true, true, true, true, true, true, true, true, true, true, true, true, true, true, true, false, false, false] rfl rfl (by kernel_rfl) (fun c a w h => hQ c _ _ _ w h) (Or.inl ⟨by rfl, ?_⟩) ?_ ?_
  rotate_left
  · intro w'
    go_simp
    (try simp only [c1, c2, c3, if_true, if_pos trivial])
    with_reducible rfl
  rotate_left
  · simp only [Act.put, List.setIfInBounds_toArray, List.set_cons_zero, List.set_cons_succ, i64_w, i32_w, e1, e2, e3, hp, e5, e7, e6]
    rfl
  refine pure_ (i := 15) (N := some 41) (v := ?_) (a' := ?_) #[true, true, true, true, true, true, true, true, true, true, true, true, true, true, true, true, false, false] rfl rfl (by kernel_rfl) (fun c a w h => hQ c _ _ _ w h) (Or.inl ⟨by rfl, ?_⟩) ?_ ?_
  rotate_left
  · intro w'
    go_simp
    (try simp only [c1, c2, c3, if_true, if_pos trivial])
    with_reducible rfl
  rotate_left
  · simp only [Act.put, List.setIfInBounds_toArray, List.set_cons_zero, List.set_cons_succ, i64_w, i32_w, e1, e2, e3, hp, e5, e7, e6]
    rfl
  refine pure_ (i := 16) (N := some 42) (v := ?_) (a' := ?_) #[true, true, true, true, true, true, true, true, true, true, true, true, true, true, true, true, true, false] rfl rfl (by kernel_rfl) (fun c a w h => hQ c _ _ _ w h) (Or.inl ⟨by rfl, ?_⟩) ?_ ?_
  rotate_left
  · intro w'
    go_simp
    (try simp only [c1, c2, c3, if_true, if_pos trivial])
    with_reducible rfl
  rotate_left
  · simp only [Act.put, List.setIfInBounds_toArray, List.set_cons_zero, List.set_cons_succ, i64_w, i32_w, e1, e2, e3, hp, e5, e7, e6]
    rfl
  refine last_ (i := 17) (N := none) #[true, true, true, true, true, true, true, true, true, true, true, true, true, true, true, true, true, true] rfl rfl (by kernel_rfl) (by decide) (fun K hK => ?_)
  refine skip_ (w1 := ?_) (by rfl) rfl ?_ ?_
  rotate_left
  · go_simp
    (try simp only [e4, if_false, e1, e2, hp, e3, e5, e7, e6])
    rfl
  refine hK.out _ _ ?_
  clear hK K
  refine done_ (by kernel_rfl) ?_
  exact H _ _ _ _ _ _ _ _ _ _ _ _ _ _ _ _ _
set_option maxHeartbeats 4000000 in
set_option maxRecDepth 100000 in
theorem mulr10 (ops : Array Oper) (hops : Tryd.f21.body.bind (findR 10) = some (ops, true)) (Q : Exit → Act → World → Prop) (w : World) (gx gy gs i j k : Nat) (s xi yj : Int) (ds : _) (t0 t1 t2 t3 t4 t10 t11 t12 t13 t14 t15 t16 t17 t18 t19 t20 t21 t22 t23 t24 t25 t26 t27 t28 t29 t30 t31 t32 t33 t34 t35 t36 t37 t38 t39 t40 t41 t42 t43 t44 t45 t46 t47 t48 t49 t50 t51 t52 t53 t54 t55 t56 t57 t58 t59 t60 t61 t62 t63 t64 t65 t66 t67 t68 t69 t70 t71 t72 t73 t74 t75 t76 t77 : Value)
    (hQ : ∀ c a d v w, Q (.panic c) (Act.put a d v) w → Q (.panic c) a w) (hfz : w.frozen? ⟨gs, k, none⟩ = false) (hxi : 0 ≤ xi ∧ xi ≤ 65535) (hyj : 0 ≤ yj ∧ yj ≤ 65535) (hs0 : 0 ≤ s ∧ s ≤ 4294967296) (p : Int) (hp : xi * yj = p) (hp0 : 0 ≤ p ∧ p ≤ 4294836225) (ii jj : Int) (hii : ii = (i : Int)) (hjj : jj = (j : Int)) (hi : i < 4) (hj : j < 4) (hk : i + j + 1 = k) (hx : w.cell? ⟨gx, i, none⟩ = some (.int .u32 xi)) (hy : w.cell? ⟨gy, j, none⟩ = some (.int .u32 yj)) (hs : w.cell? ⟨gs, k, none⟩ = some (.int .u64 s))
    (H : ∀ (u43 u44 u45 u46 u47 u48 u49 u50 u51 u52 u53 u54 u55 u56 u57 u58 u59 u60 : Value), Q .normal { tmps := (List.toArray (t0 :: t1 :: t2 :: t3 :: t4 :: Value.pointer (some ⟨gx, 0, none⟩) :: Value.pointer (some ⟨gy, 0, none⟩) :: Value.pointer (some ⟨gs, 0, none⟩) :: Value.int IntKind.i64 ii :: Value.int IntKind.i64 jj :: t10 :: t11 :: t12 :: t13 :: t14 :: t15 :: t16 :: t17 :: t18 :: t19 :: t20 :: t21 :: t22 :: t23 :: t24 :: t25 :: t26 :: t27 :: t28 :: t29 :: t30 :: t31 :: t32 :: t33 :: t34 :: t35 :: t36 :: t37 :: t38 :: t39 :: t40 :: t41 :: t42 :: u43 :: u44 :: u45 :: u46 :: u47 :: u48 :: u49 :: u50 :: u51 :: u52 :: u53 :: u54 :: u55 :: u56 :: u57 :: u58 :: u59 :: u60 :: t61 :: t62 :: t63 :: t64 :: t65 :: t66 :: t67 :: t68 :: t69 :: t70 :: t71 :: t72 :: t73 :: t74 :: t75 :: t76 :: t77 :: [])), defers := ds } (w.setCell ⟨gs, k, none⟩ (.int .u64 (s + p / 65536))).drew) :
    Code.wp Tryd.prog (.region 10 ops true) Q { tmps := (List.toArray (t0 :: t1 :: t2 :: t3 :: t4 :: Value.pointer (some ⟨gx, 0, none⟩) :: Value.pointer (some ⟨gy, 0, none⟩) :: Value.pointer (some ⟨gs, 0, none⟩) :: Value.int IntKind.i64 ii :: Value.int IntKind.i64 jj :: t10 :: t11 :: t12 :: t13 :: t14 :: t15 :: t16 :: t17 :: t18 :: t19 :: t20 :: t21 :: t22 :: t23 :: t24 :: t25 :: t26 :: t27 :: t28 :: t29 :: t30 :: t31 :: t32 :: t33 :: t34 :: t35 :: t36 :: t37 :: t38 :: t39 :: t40 :: t41 :: t42 :: t43 :: t44 :: t45 :: t46 :: t47 :: t48 :: t49 :: t50 :: t51 :: t52 :: t53 :: t54 :: t55 :: t56 :: t57 :: t58 :: t59 :: t60 :: t61 :: t62 :: t63 :: t64 :: t65 :: t66 :: t67 :: t68 :: t69 :: t70 :: t71 :: t72 :: t73 :: t74 :: t75 :: t76 :: t77 :: [])), defers := ds } w := by
  have hk0 : wrap64 ((i : Int) + j) = (i : Int) + j := by unfold wrap64; omega
  have hkk : wrap64 ((i : Int) + j + 1) = (k : Int) := by subst hk; unfold wrap64; omega
  have hk2 : wrap64 (wrap64 ((i : Int) + j) + 1) = (k : Int) := by rw [hk0, hkk]
  clear hk0 hkk
  subst hii hjj
  have e1 : IntKind.u64.wrap xi = xi := by rw [IntKind.wrap_u64]; omega
  have e2 : IntKind.u64.wrap yj = yj := by rw [IntKind.wrap_u64]; omega
  have e3 : IntKind.u64.wrap p = p := by rw [IntKind.wrap_u64]; omega
  have e5 : Int.tdiv p 65536 = p / 65536 := Int.tdiv_eq_ediv_of_nonneg hp0.1
  have e6 : IntKind.u64.wrap (s + p / 65536) = s + p / 65536 := by rw [IntKind.wrap_u64]; omega
  have e7 : IntKind.u64.wrap (p / 65536) = p / 65536 := by rw [IntKind.wrap_u64]; omega
  have e4 : (w.frozen? ⟨gs, k, none⟩ = true) = False := by rw [hfz]; simp
  have c1 : ((k : Int) < 9) = True := eq_true (by omega)
  have c2 : ((i : Int) < 8) = True := eq_true (by omega)
  have c3 : ((j : Int) < 8) = True := eq_true (by omega)
  simp [Tryd.f21, findR] at hops
  subst hops
  refine start_ (n := 19) (S := fun w' => w'.cell? ⟨gs, k, none⟩ = some (.int .u64 s) ∧ w'.cell? ⟨gx, i, none⟩ = some (.int .u32 xi) ∧ w'.cell? ⟨gy, j, none⟩ = some (.int .u32 yj)) (ds := [18]) #[false, false, false, false, false, false, false, false, false, false, false, false, false, false, false, false, false, false, false] (by kernel_rfl) rfl rfl ⟨hs, hx, hy⟩ (fun hHeld => ?_)
  refine pure_ (i := 0) (N := some 43) (v := ?_) (a' := ?_) #[true, false, false, false, false, false, false, false, false, false, false, false, false, false, false, false, false, false, false] rfl rfl (by kernel_rfl) (fun c a w h => hQ c _ _ _ w h) (Or.inl ⟨by rfl, ?_⟩) ?_ ?_
  rotate_left
  · intro w'
    go_simp
    (try simp only [hk2, c1, c2, c3, if_true, if_pos trivial])
    with_reducible rfl
  rotate_left
  · simp only [Act.put, List.setIfInBounds_toArray, List.set_cons_zero, List.set_cons_succ, i64_w, i32_w, e1, e2, e3, hp, e5, e7, e6]
    rfl
  refine pure_ (i := 1) (N := some 44) (v := ?_) (a' := ?_) #[true, true, false, false, false, false, false, false, false, false, false, false, false, false, false, false, false, false, false] rfl rfl (by kernel_rfl) (fun c a w h => hQ c _ _ _ w h) (Or.inl ⟨by rfl, ?_⟩) ?_ ?_
  rotate_left
  · intro w'
    go_simp
    (try simp only [hk2, c1, c2, c3, if_true, if_pos trivial])
    with_reducible rfl
  rotate_left
  · simp only [Act.put, List.setIfInBounds_toArray, List.set_cons_zero, List.set_cons_succ, i64_w, i32_w, e1, e2, e3, hp, e5, e7, e6]
    rfl
  refine pure_ (i := 2) (N := some 45) (v := ?_) (a' := ?_) #[true, true, true, false, false, false, false, false, false, false, false, false, false, false, false, false, false, false, false] rfl rfl (by kernel_rfl) (fun c a w h => hQ c _ _ _ w h) (Or.inl ⟨by rfl, ?_⟩) ?_ ?_
  rotate_left
  · intro w'
    go_simp
    (try simp only [hk2, c1, c2, c3, if_true, if_pos trivial])
    with_reducible rfl
  rotate_left
  · simp only [Act.put, List.setIfInBounds_toArray, List.set_cons_zero, List.set_cons_succ, i64_w, i32_w, e1, e2, e3, hp, e5, e7, e6]
    rfl
  refine pure_ (i := 3) (N := some 46) (v := ?_) (a' := ?_) #[true, true, true, true, false, false, false, false, false, false, false, false, false, false, false, false, false, false, false] rfl rfl (by kernel_rfl) (fun c a w h => hQ c _ _ _ w h) (Or.inl ⟨by rfl, ?_⟩) ?_ ?_
  rotate_left
  · intro w'
    go_simp
    (try simp only [hk2, c1, c2, c3, if_true, if_pos trivial])
    with_reducible rfl
  rotate_left
  · simp only [Act.put, List.setIfInBounds_toArray, List.set_cons_zero, List.set_cons_succ, i64_w, i32_w, e1, e2, e3, hp, e5, e7, e6]
    rfl
  refine pure_ (i := 4) (N := some 47) (v := ?_) (a' := ?_) #[true, true, true, true, true, false, false, false, false, false, false, false, false, false, false, false, false, false, false] rfl rfl (by kernel_rfl) (fun c a w h => hQ c _ _ _ w h) (Or.inl ⟨by rfl, ?_⟩) ?_ ?_
  rotate_left
  · intro w'
    go_simp
    (try simp only [hk2, c1, c2, c3, if_true, if_pos trivial])
    with_reducible rfl
  rotate_left
  · simp only [Act.put, List.setIfInBounds_toArray, List.set_cons_zero, List.set_cons_succ, i64_w, i32_w, e1, e2, e3, hp, e5, e7, e6]
    rfl
  refine pure_ (i := 6) (N := some 49) (v := ?_) (a' := ?_) #[true, true, true, true, true, false, true, false, false, false, false, false, false, false, false, false, false, false, false] rfl rfl (by kernel_rfl) (fun c a w h => hQ c _ _ _ w h) (Or.inl ⟨by rfl, ?_⟩) ?_ ?_
  rotate_left
  · intro w'
    go_simp
    (try simp only [hk2, c1, c2, c3, if_true, if_pos trivial])
    with_reducible rfl
  rotate_left
  · simp only [Act.put, List.setIfInBounds_toArray, List.set_cons_zero, List.set_cons_succ, i64_w, i32_w, e1, e2, e3, hp, e5, e7, e6]
    rfl
  refine pure_ (i := 7) (N := some 50) (v := ?_) (a' := ?_) #[true, true, true, true, true, false, true, true, false, false, false, false, false, false, false, false, false, false, false] rfl rfl (by kernel_rfl) (fun c a w h => hQ c _ _ _ w h) (Or.inl ⟨by rfl, ?_⟩) ?_ ?_
  rotate_left
  · intro w'
    go_simp
    (try simp only [hk2, c1, c2, c3, if_true, if_pos trivial])
    with_reducible rfl
  rotate_left
  · simp only [Act.put, List.setIfInBounds_toArray, List.set_cons_zero, List.set_cons_succ, i64_w, i32_w, e1, e2, e3, hp, e5, e7, e6]
    rfl
  refine pure_ (i := 10) (N := some 53) (v := ?_) (a' := ?_) #[true, true, true, true, true, false, true, true, false, false, true, false, false, false, false, false, false, false, false] rfl rfl (by kernel_rfl) (fun c a w h => hQ c _ _ _ w h) (Or.inl ⟨by rfl, ?_⟩) ?_ ?_
  rotate_left
  · intro w'
    go_simp
    (try simp only [hk2, c1, c2, c3, if_true, if_pos trivial])
    with_reducible rfl
  rotate_left
  · simp only [Act.put, List.setIfInBounds_toArray, List.set_cons_zero, List.set_cons_succ, i64_w, i32_w, e1, e2, e3, hp, e5, e7, e6]
    rfl
  refine pure_ (i := 11) (N := some 54) (v := ?_) (a' := ?_) #[true, true, true, true, true, false, true, true, false, false, true, true, false, false, false, false, false, false, false] rfl rfl (by kernel_rfl) (fun c a w h => hQ c _ _ _ w h) (Or.inl ⟨by rfl, ?_⟩) ?_ ?_
  rotate_left
  · intro w'
    go_simp
    (try simp only [hk2, c1, c2, c3, if_true, if_pos trivial])
    with_reducible rfl
  rotate_left
  · simp only [Act.put, List.setIfInBounds_toArray, List.set_cons_zero, List.set_cons_succ, i64_w, i32_w, e1, e2, e3, hp, e5, e7, e6]
    rfl
  refine take_ (i := 5) (N := some 48) (v := ?_) (a' := ?_) #[true, true, true, true, true, true, true, true, false, false, true, true, false, false, false, false, false, false, false] rfl rfl (by kernel_rfl) (fun c a w h => hQ c _ _ _ w h) (Or.inl ⟨by rfl, ?_⟩) hHeld ?_ ?_
  rotate_left
  · intro w' s0
    go_simp
    (try simp only [hk2, c1, c2, c3, s0.1, s0.2.1, s0.2.2, if_true, if_pos trivial])
    with_reducible rfl
  rotate_left
  · simp only [Act.put, List.setIfInBounds_toArray, List.set_cons_zero, List.set_cons_succ, i64_w, i32_w, e1, e2, e3, hp, e5, e7, e6]
    rfl
  refine take_ (i := 8) (N := some 51) (v := ?_) (a' := ?_) #[true, true, true, true, true, true, true, true, true, false, true, true, false, false, false, false, false, false, false] rfl rfl (by kernel_rfl) (fun c a w h => hQ c _ _ _ w h) (Or.inl ⟨by rfl, ?_⟩) hHeld ?_ ?_
  rotate_left
  · intro w' s0
    go_simp
    (try simp only [hk2, c1, c2, c3, s0.1, s0.2.1, s0.2.2, if_true, if_pos trivial])
    with_reducible rfl
  rotate_left
  · simp only [Act.put, List.setIfInBounds_toArray, List.set_cons_zero, List.set_cons_succ, i64_w, i32_w, e1, e2, e3, hp, e5, e7, e6]
    rfl
  refine take_ (i := 12) (N := some 55) (v := ?_) (a' := ?_) #[true, true, true, true, true, true, true, true, true, false, true, true, true, false, false, false, false, false, false] rfl rfl (by kernel_rfl) (fun c a w h => hQ c _ _ _ w h) (Or.inl ⟨by rfl, ?_⟩) hHeld ?_ ?_
  rotate_left
  · intro w' s0
    go_simp
    (try simp only [hk2, c1, c2, c3, s0.1, s0.2.1, s0.2.2, if_true, if_pos trivial])
    with_reducible rfl
  rotate_left
  · simp only [Act.put, List.setIfInBounds_toArray, List.set_cons_zero, List.set_cons_succ, i64_w, i32_w, e1, e2, e3, hp, e5, e7, e6]
    rfl
  refine pure_ (i := 9) (N := some 52) (v := ?_) (a' := ?_) #[true, true, true, true, true, true, true, true, true, true, true, true, true, false, false, false, false, false, false] rfl rfl (by kernel_rfl) (fun c a w h => hQ c _ _ _ w h) (Or.inl ⟨by rfl, ?_⟩) ?_ ?_
  rotate_left
  · intro w'
    go_simp
    (try simp only [hk2, c1, c2, c3, if_true, if_pos trivial])
    with_reducible rfl
  rotate_left
  · simp only [Act.put, List.setIfInBounds_toArray, List.set_cons_zero, List.set_cons_succ, i64_w, i32_w, e1, e2, e3, hp, e5, e7, e6]
    rfl
  refine pure_ (i := 13) (N := some 56) (v := ?_) (a' := ?_) #[true, true, true, true, true, true, true, true, true, true, true, true, true, true, false, false, false, false, false] rfl rfl (by kernel_rfl) (fun c a w h => hQ c _ _ _ w h) (Or.inl ⟨by rfl, ?_⟩) ?_ ?_
  rotate_left
  · intro w'
    go_simp
    (try simp only [hk2, c1, c2, c3, if_true, if_pos trivial])
    with_reducible rfl
  rotate_left
  · simp only [Act.put, List.setIfInBounds_toArray, List.set_cons_zero, List.set_cons_succ, i64_w, i32_w, e1, e2, e3, hp, e5, e7, e6]
    rfl
  refine pure_ (i := 14) (N := some 57) (v := ?_) (a' := ?_) #[true, true, true, true, true, true, true, true, true, true, true, true, true, true, true, false, false, false, false] rfl rfl (by kernel_rfl) (fun c a w h => hQ c _ _ _ w h) (Or.inl ⟨by rfl, ?_⟩) ?_ ?_
  rotate_left
  · intro w'
    go_simp
    (try simp only [hk2, c1, c2, c3, if_true, if_pos trivial])
    with_reducible rfl
  rotate_left
  · simp only [Act.put, List.setIfInBounds_toArray, List.set_cons_zero, List.set_cons_succ, i64_w, i32_w, e1, e2, e3, hp, e5, e7, e6]
    rfl
  refine pure_ (i := 15) (N := some 58) (v := ?_) (a' := ?_) #[true, true, true, true, true, true, true, true, true, true, true, true, true, true, true, true, false, false, false] rfl rfl (by kernel_rfl) (fun c a w h => hQ c _ _ _ w h) (Or.inl ⟨by rfl, ?_⟩) ?_ ?_
  rotate_left
  · intro w'
    go_simp
    (try simp only [hk2, c1, c2, c3, if_true, if_pos trivial])
    with_reducible rfl
  rotate_left
  · simp only [Act.put, List.setIfInBounds_toArray, List.set_cons_zero, List.set_cons_succ, i64_w, i32_w, e1, e2, e3, hp, e5, e7, e6]
    rfl
  refine pure_ (i := 16) (N := some 59) (v := ?_) (a' := ?_) #[true, true, true, true, true, true, true, true, true, true, true, true, true, true, true, true, true, false, false] rfl rfl (by kernel_rfl) (fun c a w h => hQ c _ _ _ w h) (Or.inl ⟨by rfl, ?_⟩) ?_ ?_
  rotate_left
  · intro w'
    go_simp
    (try simp only [hk2, c1, c2, c3, if_true, if_pos trivial])
    with_reducible rfl
  rotate_left
  · simp only [Act.put, List.setIfInBounds_toArray, List.set_cons_zero, List.set_cons_succ, i64_w, i32_w, e1, e2, e3, hp, e5, e7, e6]
    rfl
  refine pure_ (i := 17) (N := some 60) (v := ?_) (a' := ?_) #[true, true, true, true, true, true, true, true, true, true, true, true, true, true, true, true, true, true, false] rfl rfl (by kernel_rfl) (fun c a w h => hQ c _ _ _ w h) (Or.inl ⟨by rfl, ?_⟩) ?_ ?_
  rotate_left
  · intro w'
    go_simp
    (try simp only [hk2, c1, c2, c3, if_true, if_pos trivial])
    with_reducible rfl
  rotate_left
  · simp only [Act.put, List.setIfInBounds_toArray, List.set_cons_zero, List.set_cons_succ, i64_w, i32_w, e1, e2, e3, hp, e5, e7, e6]
    rfl
  refine last_ (i := 18) (N := none) #[true, true, true, true, true, true, true, true, true, true, true, true, true, true, true, true, true, true, true] rfl rfl (by kernel_rfl) (by decide) (fun K hK => ?_)
  refine skip_ (w1 := ?_) (by rfl) rfl ?_ ?_
  rotate_left
  · go_simp
    (try simp only [hk2, e4, if_false, e1, e2, hp, e3, e5, e7, e6])
    rfl
  refine hK.out _ _ ?_
  clear hK K
  refine done_ (by kernel_rfl) ?_
  exact H _ _ _ _ _ _ _ _ _ _ _ _ _ _ _ _ _ _
inductive MulAct1 (PA PB : Int) (gb4 gb5 gb6 gb7 : Nat) (v8 : Int) : Act → Prop
  | mk (t2 t3 t9 t10 t11 t12 t13 t14 t15 t16 t17 t18 t19 t20 t21 t22 t23 t24 t25 t26 t27 t28 t29 t30 t31 t32 t33 t34 t35 t36 t37 t38 t39 t40 t41 t42 t43 t44 t45 t46 t47 t48 t49 t50 t51 t52 t53 t54 t55 t56 t57 t58 t59 t60 t61 t62 t63 t64 t65 t66 t67 t68 t69 t70 t71 t72 t73 t74 t75 t76 t77 : Value) : MulAct1 PA PB gb4 gb5 gb6 gb7 v8 { tmps := (List.toArray (Value.int IntKind.u64 PA :: Value.int IntKind.u64 PB :: t2 :: t3 :: Value.pointer (some ⟨gb4, 0, none⟩) :: Value.pointer (some ⟨gb5, 0, none⟩) :: Value.pointer (some ⟨gb6, 0, none⟩) :: Value.pointer (some ⟨gb7, 0, none⟩) :: Value.int IntKind.i64 v8 :: t9 :: t10 :: t11 :: t12 :: t13 :: t14 :: t15 :: t16 :: t17 :: t18 :: t19 :: t20 :: t21 :: t22 :: t23 :: t24 :: t25 :: t26 :: t27 :: t28 :: t29 :: t30 :: t31 :: t32 :: t33 :: t34 :: t35 :: t36 :: t37 :: t38 :: t39 :: t40 :: t41 :: t42 :: t43 :: t44 :: t45 :: t46 :: t47 :: t48 :: t49 :: t50 :: t51 :: t52 :: t53 :: t54 :: t55 :: t56 :: t57 :: t58 :: t59 :: t60 :: t61 :: t62 :: t63 :: t64 :: t65 :: t66 :: t67 :: t68 :: t69 :: t70 :: t71 :: t72 :: t73 :: t74 :: t75 :: t76 :: t77 :: [])), defers := [] }
inductive MulAct2 (PA PB : Int) (gb4 gb5 gb6 gb7 : Nat) (v8 v9 : Int) : Act → Prop
  | mk (t2 t3 t10 t11 t12 t13 t14 t15 t16 t17 t18 t19 t20 t21 t22 t23 t24 t25 t26 t27 t28 t29 t30 t31 t32 t33 t34 t35 t36 t37 t38 t39 t40 t41 t42 t43 t44 t45 t46 t47 t48 t49 t50 t51 t52 t53 t54 t55 t56 t57 t58 t59 t60 t61 t62 t63 t64 t65 t66 t67 t68 t69 t70 t71 t72 t73 t74 t75 t76 t77 : Value) : MulAct2 PA PB gb4 gb5 gb6 gb7 v8 v9 { tmps := (List.toArray (Value.int IntKind.u64 PA :: Value.int IntKind.u64 PB :: t2 :: t3 :: Value.pointer (some ⟨gb4, 0, none⟩) :: Value.pointer (some ⟨gb5, 0, none⟩) :: Value.pointer (some ⟨gb6, 0, none⟩) :: Value.pointer (some ⟨gb7, 0, none⟩) :: Value.int IntKind.i64 v8 :: Value.int IntKind.i64 v9 :: t10 :: t11 :: t12 :: t13 :: t14 :: t15 :: t16 :: t17 :: t18 :: t19 :: t20 :: t21 :: t22 :: t23 :: t24 :: t25 :: t26 :: t27 :: t28 :: t29 :: t30 :: t31 :: t32 :: t33 :: t34 :: t35 :: t36 :: t37 :: t38 :: t39 :: t40 :: t41 :: t42 :: t43 :: t44 :: t45 :: t46 :: t47 :: t48 :: t49 :: t50 :: t51 :: t52 :: t53 :: t54 :: t55 :: t56 :: t57 :: t58 :: t59 :: t60 :: t61 :: t62 :: t63 :: t64 :: t65 :: t66 :: t67 :: t68 :: t69 :: t70 :: t71 :: t72 :: t73 :: t74 :: t75 :: t76 :: t77 :: [])), defers := [] }
inductive MulAct3 (PA PB : Int) (gb4 gb5 gb6 gb7 gb10 : Nat) (v11 v61 : Int) : Act → Prop
  | mk (t2 t3 t8 t9 t12 t13 t14 t15 t16 t17 t18 t19 t20 t21 t22 t23 t24 t25 t26 t27 t28 t29 t30 t31 t32 t33 t34 t35 t36 t37 t38 t39 t40 t41 t42 t43 t44 t45 t46 t47 t48 t49 t50 t51 t52 t53 t54 t55 t56 t57 t58 t59 t60 t62 t63 t64 t65 t66 t67 t68 t69 t70 t71 t72 t73 t74 t75 t76 t77 : Value) : MulAct3 PA PB gb4 gb5 gb6 gb7 gb10 v11 v61 { tmps := (List.toArray (Value.int IntKind.u64 PA :: Value.int IntKind.u64 PB :: t2 :: t3 :: Value.pointer (some ⟨gb4, 0, none⟩) :: Value.pointer (some ⟨gb5, 0, none⟩) :: Value.pointer (some ⟨gb6, 0, none⟩) :: Value.pointer (some ⟨gb7, 0, none⟩) :: t8 :: t9 :: Value.pointer (some ⟨gb10, 0, none⟩) :: Value.int IntKind.u64 v11 :: t12 :: t13 :: t14 :: t15 :: t16 :: t17 :: t18 :: t19 :: t20 :: t21 :: t22 :: t23 :: t24 :: t25 :: t26 :: t27 :: t28 :: t29 :: t30 :: t31 :: t32 :: t33 :: t34 :: t35 :: t36 :: t37 :: t38 :: t39 :: t40 :: t41 :: t42 :: t43 :: t44 :: t45 :: t46 :: t47 :: t48 :: t49 :: t50 :: t51 :: t52 :: t53 :: t54 :: t55 :: t56 :: t57 :: t58 :: t59 :: t60 :: Value.int IntKind.i64 v61 :: t62 :: t63 :: t64 :: t65 :: t66 :: t67 :: t68 :: t69 :: t70 :: t71 :: t72 :: t73 :: t74 :: t75 :: t76 :: t77 :: [])), defers := [] }
set_option maxHeartbeats 4000000 in
set_option maxRecDepth 100000 in
theorem refmul_walk (a b : Nat) (ha : a < 18446744073709551616) (hb : b < 18446744073709551616) (w : World) :
    Calls Tryd.prog 21 #[.int .u64 a, .int .u64 b] w fun e w' => e = .returned (.agg (cells8 (dg (a * b)))) ∧ Below w.heap.size w w' := by
  obtain ⟨X, hX⟩ : ∃ X : Nat → Int, X = fun k => ((dg a k : Nat) : Int) := ⟨_, rfl⟩
  obtain ⟨Y, hY⟩ : ∃ X : Nat → Int, X = fun k => ((dg b k : Nat) : Int) := ⟨_, rfl⟩
  obtain ⟨PA, hPA⟩ : ∃ z : Int, z = (a : Nat) := ⟨_, rfl⟩
  obtain ⟨PB, hPB⟩ : ∃ z : Int, z = (b : Nat) := ⟨_, rfl⟩
  have HPA := Aside0.mk (by rw [hPA, hX]; exact of_dg a ha : arrearsref03_Of.f 0 PA = some (X 0, X 1, X 2, X 3, X 4, X 5, X 6, X 7))
  have HPB := Aside0.mk (by rw [hPB, hY]; exact of_dg b hb : arrearsref03_Of.f 0 PB = some (Y 0, Y 1, Y 2, Y 3, Y 4, Y 5, Y 6, Y 7))
  rw [← hPA, ← hPB]
  have HX := Aside0.mk hX
  have HY := Aside0.mk hY
  have Hlta := Aside0.mk ha
  have Hltb := Aside0.mk hb
  clear hX hY hPA hPB ha hb
  go_enter Tryd.func21, Tryd.ntmps21
  go_upto_region 3 with (first | ((with_reducible refine gate_dst (N := 4) rfl ?_); (try (refine gate_guard (by rfl) ?_; dsimp only)); refine box_event ?hg (N := 4) ?hd (cs := #[.int .u32 0, .int .u32 0, .int .u32 0, .int .u32 0, .int .u32 0, .int .u32 0, .int .u32 0, .int .u32 0]) (t := 46) ?hr ?_; (case hd => rfl); (case hg => rfl); (case hr => first | (go_simp; done) | (go_simp; rfl)); intro gb4 hg w4 hbox hb; have BK4 := Aside0.mk hbox; have HB := Aside0.mk hb; have GE4 := Aside0.mk (Nat.le_of_eq hg.symm : w.heap.size ≤ gb4); clear hbox hb hg) | (go_at_call 18; (with_reducible refine (arrearsref03_Of.calls 0 PA (X 0) (X 1) (X 2) (X 3) (X 4) (X 5) (X 6) (X 7) _ HPA.out).mono ?_); rintro e w21 ⟨rfl, hb⟩; have n4_ := Aside0.mk (blk_below BK4.out hb); have m_ := Aside0.mk (below_step HB.out hb); clear HB; have HB := m_; clear m_; clear BK4; have BK4 := n4_; clear n4_; clear hb) | (go_at_call 18; (with_reducible refine (arrearsref03_Of.calls 0 PB (Y 0) (Y 1) (Y 2) (Y 3) (Y 4) (Y 5) (Y 6) (Y 7) _ HPB.out).mono ?_); rintro e w22 ⟨rfl, hb⟩; have n4_ := Aside0.mk (blk_below BK4.out hb); have m_ := Aside0.mk (below_step HB.out hb); clear HB; have HB := m_; clear m_; clear BK4; have BK4 := n4_; clear n4_; clear hb) | ((with_reducible refine gate_dst (N := 5) rfl ?_); (try (refine gate_guard (by rfl) ?_; dsimp only)); refine box_event ?hg (N := 5) ?hd (cs := #[.int .u32 0, .int .u32 0, .int .u32 0, .int .u32 0, .int .u32 0, .int .u32 0, .int .u32 0, .int .u32 0]) (t := 46) ?hr ?_; (case hd => rfl); (case hg => rfl); (case hr => first | (go_simp; done) | (go_simp; rfl)); intro gb5 hg w5 hbox hb; have n4_ := Aside0.mk (blk_below BK4.out hb); have NB4_5 := Aside0.mk (by rw [hg]; exact Nat.ne_of_lt (blk_lt BK4.out) : gb4 ≠ gb5); have m_ := Aside0.mk (below_step HB.out hb); have GE5 := Aside0.mk (Nat.le_trans (below_size HB.out) (Nat.le_of_eq hg.symm) : w.heap.size ≤ gb5); clear HB; have HB := m_; clear m_; clear BK4; have BK4 := n4_; clear n4_; have BK5 := Aside0.mk hbox; clear hbox hb hg) | ((with_reducible refine gate_dst (N := 6) rfl ?_); (try (refine gate_guard (by rfl) ?_; dsimp only)); refine box_event ?hg (N := 6) ?hd (cs := #[.int .u32 0, .int .u32 0, .int .u32 0, .int .u32 0, .int .u32 0, .int .u32 0, .int .u32 0, .int .u32 0]) (t := 46) ?hr ?_; (case hd => rfl); (case hg => rfl); (case hr => first | (go_simp; done) | (go_simp; rfl)); intro gb6 hg w6 hbox hb; have n4_ := Aside0.mk (blk_below BK4.out hb); have NB4_6 := Aside0.mk (by rw [hg]; exact Nat.ne_of_lt (blk_lt BK4.out) : gb4 ≠ gb6); have n5_ := Aside0.mk (blk_below BK5.out hb); have NB5_6 := Aside0.mk (by rw [hg]; exact Nat.ne_of_lt (blk_lt BK5.out) : gb5 ≠ gb6); have m_ := Aside0.mk (below_step HB.out hb); have GE6 := Aside0.mk (Nat.le_trans (below_size HB.out) (Nat.le_of_eq hg.symm) : w.heap.size ≤ gb6); clear HB; have HB := m_; clear m_; clear BK4; have BK4 := n4_; clear n4_; clear BK5; have BK5 := n5_; clear n5_; have BK6 := Aside0.mk hbox; clear hbox hb hg; have hc5_0 : w6.cell? ⟨gb5, 0, none⟩ = some (.int .u32 0) := (blk_cell BK5.out 0).trans rfl; have hf5_0 := blk_frozen BK5.out 0; have hc5_1 : w6.cell? ⟨gb5, 1, none⟩ = some (.int .u32 0) := (blk_cell BK5.out 1).trans rfl; have hf5_1 := blk_frozen BK5.out 1; have hc5_2 : w6.cell? ⟨gb5, 2, none⟩ = some (.int .u32 0) := (blk_cell BK5.out 2).trans rfl; have hf5_2 := blk_frozen BK5.out 2; have hc5_3 : w6.cell? ⟨gb5, 3, none⟩ = some (.int .u32 0) := (blk_cell BK5.out 3).trans rfl; have hf5_3 := blk_frozen BK5.out 3; have hc5_4 : w6.cell? ⟨gb5, 4, none⟩ = some (.int .u32 0) := (blk_cell BK5.out 4).trans rfl; have hf5_4 := blk_frozen BK5.out 4; have hc5_5 : w6.cell? ⟨gb5, 5, none⟩ = some (.int .u32 0) := (blk_cell BK5.out 5).trans rfl; have hf5_5 := blk_frozen BK5.out 5; have hc5_6 : w6.cell? ⟨gb5, 6, none⟩ = some (.int .u32 0) := (blk_cell BK5.out 6).trans rfl; have hf5_6 := blk_frozen BK5.out 6; have hc5_7 : w6.cell? ⟨gb5, 7, none⟩ = some (.int .u32 0) := (blk_cell BK5.out 7).trans rfl; have hf5_7 := blk_frozen BK5.out 7; have hc6_0 : w6.cell? ⟨gb6, 0, none⟩ = some (.int .u32 0) := (blk_cell BK6.out 0).trans rfl; have hf6_0 := blk_frozen BK6.out 0; have hc6_1 : w6.cell? ⟨gb6, 1, none⟩ = some (.int .u32 0) := (blk_cell BK6.out 1).trans rfl; have hf6_1 := blk_frozen BK6.out 1; have hc6_2 : w6.cell? ⟨gb6, 2, none⟩ = some (.int .u32 0) := (blk_cell BK6.out 2).trans rfl; have hf6_2 := blk_frozen BK6.out 2; have hc6_3 : w6.cell? ⟨gb6, 3, none⟩ = some (.int .u32 0) := (blk_cell BK6.out 3).trans rfl; have hf6_3 := blk_frozen BK6.out 3; have hc6_4 : w6.cell? ⟨gb6, 4, none⟩ = some (.int .u32 0) := (blk_cell BK6.out 4).trans rfl; have hf6_4 := blk_frozen BK6.out 4; have hc6_5 : w6.cell? ⟨gb6, 5, none⟩ = some (.int .u32 0) := (blk_cell BK6.out 5).trans rfl; have hf6_5 := blk_frozen BK6.out 5; have hc6_6 : w6.cell? ⟨gb6, 6, none⟩ = some (.int .u32 0) := (blk_cell BK6.out 6).trans rfl; have hf6_6 := blk_frozen BK6.out 6; have hc6_7 : w6.cell? ⟨gb6, 7, none⟩ = some (.int .u32 0) := (blk_cell BK6.out 7).trans rfl; have hf6_7 := blk_frozen BK6.out 7; have nb := NB5_6.out; have nb' := Ne.symm NB5_6.out) | ((with_reducible refine gate_dst (N := 7) rfl ?_); (try (refine gate_guard (by rfl) ?_; dsimp only)); refine box_event ?hg (N := 7) ?hd (cs := #[.int .u64 0, .int .u64 0, .int .u64 0, .int .u64 0, .int .u64 0, .int .u64 0, .int .u64 0, .int .u64 0, .int .u64 0]) (t := 64) ?hr ?_; (case hd => rfl); (case hg => rfl); (case hr => first | (go_simp; done) | (go_simp; rfl)); intro gb7 hg w7 hbox hb; have n4_ := Aside0.mk (blk_below (blk_far (blk_far (blk_far (blk_far (blk_far (blk_far (blk_far (blk_far (blk_far (blk_far (blk_far (blk_far (blk_far (blk_far (blk_far (blk_far (BK4.out) NB4_5.out _) NB4_5.out _) NB4_5.out _) NB4_5.out _) NB4_5.out _) NB4_5.out _) NB4_5.out _) NB4_5.out _) NB4_6.out _) NB4_6.out _) NB4_6.out _) NB4_6.out _) NB4_6.out _) NB4_6.out _) NB4_6.out _) NB4_6.out _) hb); have NB4_7 := Aside0.mk (by rw [hg]; exact Nat.ne_of_lt (blk_lt (blk_far (blk_far (blk_far (blk_far (blk_far (blk_far (blk_far (blk_far (blk_far (blk_far (blk_far (blk_far (blk_far (blk_far (blk_far (blk_far (BK4.out) NB4_5.out _) NB4_5.out _) NB4_5.out _) NB4_5.out _) NB4_5.out _) NB4_5.out _) NB4_5.out _) NB4_5.out _) NB4_6.out _) NB4_6.out _) NB4_6.out _) NB4_6.out _) NB4_6.out _) NB4_6.out _) NB4_6.out _) NB4_6.out _)) : gb4 ≠ gb7); have n5_ := Aside0.mk (blk_below (blk_far (blk_far (blk_far (blk_far (blk_far (blk_far (blk_far (blk_far (blk_put (cs' := #[.int .u32 (X 0), .int .u32 (X 1), .int .u32 (X 2), .int .u32 (X 3), .int .u32 (X 4), .int .u32 (X 5), .int .u32 (X 6), .int .u32 (X 7)]) (blk_put (cs' := #[.int .u32 (X 0), .int .u32 (X 1), .int .u32 (X 2), .int .u32 (X 3), .int .u32 (X 4), .int .u32 (X 5), .int .u32 (X 6), .int .u32 0]) (blk_put (cs' := #[.int .u32 (X 0), .int .u32 (X 1), .int .u32 (X 2), .int .u32 (X 3), .int .u32 (X 4), .int .u32 (X 5), .int .u32 0, .int .u32 0]) (blk_put (cs' := #[.int .u32 (X 0), .int .u32 (X 1), .int .u32 (X 2), .int .u32 (X 3), .int .u32 (X 4), .int .u32 0, .int .u32 0, .int .u32 0]) (blk_put (cs' := #[.int .u32 (X 0), .int .u32 (X 1), .int .u32 (X 2), .int .u32 (X 3), .int .u32 0, .int .u32 0, .int .u32 0, .int .u32 0]) (blk_put (cs' := #[.int .u32 (X 0), .int .u32 (X 1), .int .u32 (X 2), .int .u32 0, .int .u32 0, .int .u32 0, .int .u32 0, .int .u32 0]) (blk_put (cs' := #[.int .u32 (X 0), .int .u32 (X 1), .int .u32 0, .int .u32 0, .int .u32 0, .int .u32 0, .int .u32 0, .int .u32 0]) (blk_put (cs' := #[.int .u32 (X 0), .int .u32 0, .int .u32 0, .int .u32 0, .int .u32 0, .int .u32 0, .int .u32 0, .int .u32 0]) (BK5.out) 0 _ rfl) 1 _ rfl) 2 _ rfl) 3 _ rfl) 4 _ rfl) 5 _ rfl) 6 _ rfl) 7 _ rfl) NB5_6.out _) NB5_6.out _) NB5_6.out _) NB5_6.out _) NB5_6.out _) NB5_6.out _) NB5_6.out _) NB5_6.out _) hb); have NB5_7 := Aside0.mk (by rw [hg]; exact Nat.ne_of_lt (blk_lt (blk_far (blk_far (blk_far (blk_far (blk_far (blk_far (blk_far (blk_far (blk_put (cs' := #[.int .u32 (X 0), .int .u32 (X 1), .int .u32 (X 2), .int .u32 (X 3), .int .u32 (X 4), .int .u32 (X 5), .int .u32 (X 6), .int .u32 (X 7)]) (blk_put (cs' := #[.int .u32 (X 0), .int .u32 (X 1), .int .u32 (X 2), .int .u32 (X 3), .int .u32 (X 4), .int .u32 (X 5), .int .u32 (X 6), .int .u32 0]) (blk_put (cs' := #[.int .u32 (X 0), .int .u32 (X 1), .int .u32 (X 2), .int .u32 (X 3), .int .u32 (X 4), .int .u32 (X 5), .int .u32 0, .int .u32 0]) (blk_put (cs' := #[.int .u32 (X 0), .int .u32 (X 1), .int .u32 (X 2), .int .u32 (X 3), .int .u32 (X 4), .int .u32 0, .int .u32 0, .int .u32 0]) (blk_put (cs' := #[.int .u32 (X 0), .int .u32 (X 1), .int .u32 (X 2), .int .u32 (X 3), .int .u32 0, .int .u32 0, .int .u32 0, .int .u32 0]) (blk_put (cs' := #[.int .u32 (X 0), .int .u32 (X 1), .int .u32 (X 2), .int .u32 0, .int .u32 0, .int .u32 0, .int .u32 0, .int .u32 0]) (blk_put (cs' := #[.int .u32 (X 0), .int .u32 (X 1), .int .u32 0, .int .u32 0, .int .u32 0, .int .u32 0, .int .u32 0, .int .u32 0]) (blk_put (cs' := #[.int .u32 (X 0), .int .u32 0, .int .u32 0, .int .u32 0, .int .u32 0, .int .u32 0, .int .u32 0, .int .u32 0]) (BK5.out) 0 _ rfl) 1 _ rfl) 2 _ rfl) 3 _ rfl) 4 _ rfl) 5 _ rfl) 6 _ rfl) 7 _ rfl) NB5_6.out _) NB5_6.out _) NB5_6.out _) NB5_6.out _) NB5_6.out _) NB5_6.out _) NB5_6.out _) NB5_6.out _)) : gb5 ≠ gb7); have n6_ := Aside0.mk (blk_below (blk_put (cs' := #[.int .u32 (Y 0), .int .u32 (Y 1), .int .u32 (Y 2), .int .u32 (Y 3), .int .u32 (Y 4), .int .u32 (Y 5), .int .u32 (Y 6), .int .u32 (Y 7)]) (blk_put (cs' := #[.int .u32 (Y 0), .int .u32 (Y 1), .int .u32 (Y 2), .int .u32 (Y 3), .int .u32 (Y 4), .int .u32 (Y 5), .int .u32 (Y 6), .int .u32 0]) (blk_put (cs' := #[.int .u32 (Y 0), .int .u32 (Y 1), .int .u32 (Y 2), .int .u32 (Y 3), .int .u32 (Y 4), .int .u32 (Y 5), .int .u32 0, .int .u32 0]) (blk_put (cs' := #[.int .u32 (Y 0), .int .u32 (Y 1), .int .u32 (Y 2), .int .u32 (Y 3), .int .u32 (Y 4), .int .u32 0, .int .u32 0, .int .u32 0]) (blk_put (cs' := #[.int .u32 (Y 0), .int .u32 (Y 1), .int .u32 (Y 2), .int .u32 (Y 3), .int .u32 0, .int .u32 0, .int .u32 0, .int .u32 0]) (blk_put (cs' := #[.int .u32 (Y 0), .int .u32 (Y 1), .int .u32 (Y 2), .int .u32 0, .int .u32 0, .int .u32 0, .int .u32 0, .int .u32 0]) (blk_put (cs' := #[.int .u32 (Y 0), .int .u32 (Y 1), .int .u32 0, .int .u32 0, .int .u32 0, .int .u32 0, .int .u32 0, .int .u32 0]) (blk_put (cs' := #[.int .u32 (Y 0), .int .u32 0, .int .u32 0, .int .u32 0, .int .u32 0, .int .u32 0, .int .u32 0, .int .u32 0]) (blk_far (blk_far (blk_far (blk_far (blk_far (blk_far (blk_far (blk_far (BK6.out) (Ne.symm NB5_6.out) _) (Ne.symm NB5_6.out) _) (Ne.symm NB5_6.out) _) (Ne.symm NB5_6.out) _) (Ne.symm NB5_6.out) _) (Ne.symm NB5_6.out) _) (Ne.symm NB5_6.out) _) (Ne.symm NB5_6.out) _) 0 _ rfl) 1 _ rfl) 2 _ rfl) 3 _ rfl) 4 _ rfl) 5 _ rfl) 6 _ rfl) 7 _ rfl) hb); have NB6_7 := Aside0.mk (by rw [hg]; exact Nat.ne_of_lt (blk_lt (blk_put (cs' := #[.int .u32 (Y 0), .int .u32 (Y 1), .int .u32 (Y 2), .int .u32 (Y 3), .int .u32 (Y 4), .int .u32 (Y 5), .int .u32 (Y 6), .int .u32 (Y 7)]) (blk_put (cs' := #[.int .u32 (Y 0), .int .u32 (Y 1), .int .u32 (Y 2), .int .u32 (Y 3), .int .u32 (Y 4), .int .u32 (Y 5), .int .u32 (Y 6), .int .u32 0]) (blk_put (cs' := #[.int .u32 (Y 0), .int .u32 (Y 1), .int .u32 (Y 2), .int .u32 (Y 3), .int .u32 (Y 4), .int .u32 (Y 5), .int .u32 0, .int .u32 0]) (blk_put (cs' := #[.int .u32 (Y 0), .int .u32 (Y 1), .int .u32 (Y 2), .int .u32 (Y 3), .int .u32 (Y 4), .int .u32 0, .int .u32 0, .int .u32 0]) (blk_put (cs' := #[.int .u32 (Y 0), .int .u32 (Y 1), .int .u32 (Y 2), .int .u32 (Y 3), .int .u32 0, .int .u32 0, .int .u32 0, .int .u32 0]) (blk_put (cs' := #[.int .u32 (Y 0), .int .u32 (Y 1), .int .u32 (Y 2), .int .u32 0, .int .u32 0, .int .u32 0, .int .u32 0, .int .u32 0]) (blk_put (cs' := #[.int .u32 (Y 0), .int .u32 (Y 1), .int .u32 0, .int .u32 0, .int .u32 0, .int .u32 0, .int .u32 0, .int .u32 0]) (blk_put (cs' := #[.int .u32 (Y 0), .int .u32 0, .int .u32 0, .int .u32 0, .int .u32 0, .int .u32 0, .int .u32 0, .int .u32 0]) (blk_far (blk_far (blk_far (blk_far (blk_far (blk_far (blk_far (blk_far (BK6.out) (Ne.symm NB5_6.out) _) (Ne.symm NB5_6.out) _) (Ne.symm NB5_6.out) _) (Ne.symm NB5_6.out) _) (Ne.symm NB5_6.out) _) (Ne.symm NB5_6.out) _) (Ne.symm NB5_6.out) _) (Ne.symm NB5_6.out) _) 0 _ rfl) 1 _ rfl) 2 _ rfl) 3 _ rfl) 4 _ rfl) 5 _ rfl) 6 _ rfl) 7 _ rfl)) : gb6 ≠ gb7); have m_ := Aside0.mk (below_step (below_set (below_set (below_set (below_set (below_set (below_set (below_set (below_set (below_set (below_set (below_set (below_set (below_set (below_set (below_set (below_set (HB.out) GE5.out) GE5.out) GE5.out) GE5.out) GE5.out) GE5.out) GE5.out) GE5.out) GE6.out) GE6.out) GE6.out) GE6.out) GE6.out) GE6.out) GE6.out) GE6.out) hb); have GE7 := Aside0.mk (Nat.le_trans (below_size (below_set (below_set (below_set (below_set (below_set (below_set (below_set (below_set (below_set (below_set (below_set (below_set (below_set (below_set (below_set (below_set (HB.out) GE5.out) GE5.out) GE5.out) GE5.out) GE5.out) GE5.out) GE5.out) GE5.out) GE6.out) GE6.out) GE6.out) GE6.out) GE6.out) GE6.out) GE6.out) GE6.out)) (Nat.le_of_eq hg.symm) : w.heap.size ≤ gb7); clear HB; have HB := m_; clear m_; clear hc5_0 hf5_0 hc5_1 hf5_1 hc5_2 hf5_2 hc5_3 hf5_3 hc5_4 hf5_4 hc5_5 hf5_5 hc5_6 hf5_6 hc5_7 hf5_7; clear hc6_0 hf6_0 hc6_1 hf6_1 hc6_2 hf6_2 hc6_3 hf6_3 hc6_4 hf6_4 hc6_5 hf6_5 hc6_6 hf6_6 hc6_7 hf6_7; clear nb nb'; clear BK4; have BK4 := n4_; clear n4_; clear BK5; have BK5 := n5_; clear n5_; clear BK6; have BK6 := n6_; clear n6_; have BK7 := Aside0.mk hbox; clear hbox hb hg))
  go_wp2
  refine wp_loop_rounds 5 ?_
  refine rounds_inv (I := fun k a_ W => k ≤ 4 ∧ ∃ (S : Nat → Nat), V9 S = prt9 a b (4 - k) 0 ∧ (∀ q, q < 9 → S q ≤ 65536 * (4 * (4 - k))) ∧ MulAct1 PA PB gb4 gb5 gb6 gb7 ((4 : Int) - k) a_ ∧ Below w.heap.size w W ∧ W.heap[gb4]? = some (.cells (cells8 (fun _ => 0)) 46 (0, 0)) ∧ W.heap[gb5]? = some (.cells (cells8 (dg a)) 46 (0, 0)) ∧ W.heap[gb6]? = some (.cells (cells8 (dg b)) 46 (0, 0)) ∧ W.heap[gb7]? = some (.cells (cells9 S) 64 (0, 0))) ?step1 4 _ _ ?init1
  case init1 =>
    refine ⟨Nat.le_refl _, fun _ => 0, ?_, ?_, MulAct1.mk .., HB.out, BK4.out, by have z := BK5.out; rw [HX.out] at z; exact z, by have z := BK6.out; rw [HY.out] at z; exact z, BK7.out⟩
    · rw [prt_0]; rfl
    · intros; exact Nat.zero_le _
  case step1 =>
    clear BK4 BK5 BK6 BK7 HB
    rintro n a_ W ⟨hk, S, hV, hS, hA_, hB, b4, b5, b6, b7⟩ K1 hK1
    rcases n with _ | m
    · rw [show ((4 : Int) - ((0 : Nat) : Int)) = 4 from rfl] at hA_
      rcases hA_ with ⟨t2, t3, t9, t10, t11, t12, t13, t14, t15, t16, t17, t18, t19, t20, t21, t22, t23, t24, t25, t26, t27, t28, t29, t30, t31, t32, t33, t34, t35, t36, t37, t38, t39, t40, t41, t42, t43, t44, t45, t46, t47, t48, t49, t50, t51, t52, t53, t54, t55, t56, t57, t58, t59, t60, t61, t62, t63, t64, t65, t66, t67, t68, t69, t70, t71, t72, t73, t74, t75, t76, t77⟩
      have HBL := Aside0.mk hB
      have HV := Aside0.mk (show V9 S = a * b by rw [hV]; exact prt_4 a b Hlta.out)
      have HS := Aside0.mk (fun q hq => Nat.le_trans (hS q hq) (by decide) : ∀ q, q < 9 → S q ≤ 1048576)
      have B4 := Aside0.mk b4
      have B7 := Aside0.mk b7
      clear hB b4 b5 b6 b7 hV hS
      go_upto_region 14 with (first | ((with_reducible refine gate_dst (N := 10) rfl ?_); (try (refine gate_guard (by rfl) ?_; dsimp only)); refine box_event ?hg (N := 10) ?hd (cs := #[.int .u32 0, .int .u32 0, .int .u32 0, .int .u32 0, .int .u32 0, .int .u32 0, .int .u32 0, .int .u32 0]) (t := 46) ?hr ?_; (case hd => rfl); (case hg => rfl); (case hr => first | (go_simp; done) | (go_simp; rfl)); intro gb10 hg w10 hbox hb; have n4_ := Aside0.mk (blk_below B4.out hb); have n7_ := Aside0.mk (blk_below B7.out hb); have NB4_10 := Aside0.mk (by rw [hg]; exact Nat.ne_of_lt (blk_lt B4.out) : gb4 ≠ gb10); have NB7_10 := Aside0.mk (by rw [hg]; exact Nat.ne_of_lt (blk_lt B7.out) : gb7 ≠ gb10); have m_ := Aside0.mk (below_step HBL.out hb); have GE10 := Aside0.mk (Nat.le_trans (below_size HBL.out) (Nat.le_of_eq hg.symm) : w.heap.size ≤ gb10); clear HBL B4 B7; have B4 := n4_; have B7 := n7_; have HBL := m_; have B10 := Aside0.mk hbox; clear n4_ n7_ m_ hbox hb hg))
      refine wp_loop_rounds 9 ?_
      refine rounds_inv (I := fun k a_ W => k ≤ 8 ∧ MulAct3 PA PB gb4 gb5 gb6 gb7 gb10 (cy S (8 - k) : Nat) ((8 : Int) - k) a_ ∧ Below w.heap.size w W ∧ W.heap[gb4]? = some (.cells (cells8 (fun _ => 0)) 46 (0, 0)) ∧ W.heap[gb7]? = some (.cells (cells9 S) 64 (0, 0)) ∧ W.heap[gb10]? = some (.cells (cells8 (fun q => if q < 8 - k then dg (a * b) q else 0)) 46 (0, 0))) ?step3 8 _ _ ?init3
      case init3 =>
        refine ⟨Nat.le_refl _, ?_, HBL.out, B4.out, B7.out, B10.out⟩
        rw [show ((cy S (8 - 8) : Nat) : Int) = 0 from rfl, show (8 : Int) - ((8 : Nat) : Int) = 0 from rfl]
        exact MulAct3.mk ..
      case step3 =>
        clear HBL B4 B7 B10
        rintro n a_ W ⟨hk, hA_, hB, b4, b7, b10⟩ K3 hK3
        have HBL := Aside0.mk hB
        rcases n with _ | n
        · rw [show ((8 : Int) - ((0 : Nat) : Int)) = 8 from rfl] at hA_
          generalize ((cy S (8 - 0) : Nat) : Int) = OV at hA_
          rcases hA_ with ⟨t2, t3, t8, t9, t12, t13, t14, t15, t16, t17, t18, t19, t20, t21, t22, t23, t24, t25, t26, t27, t28, t29, t30, t31, t32, t33, t34, t35, t36, t37, t38, t39, t40, t41, t42, t43, t44, t45, t46, t47, t48, t49, t50, t51, t52, t53, t54, t55, t56, t57, t58, t59, t60, t62, t63, t64, t65, t66, t67, t68, t69, t70, t71, t72, t73, t74, t75, t76, t77⟩
          obtain ⟨E, hE⟩ : ∃ E : Nat → Int, E = fun k => ((dg (a * b) k : Nat) : Int) := ⟨_, rfl⟩
          replace b10 : W.heap[gb10]? = some (.cells #[.int .u32 (E 0), .int .u32 (E 1), .int .u32 (E 2), .int .u32 (E 3), .int .u32 (E 4), .int .u32 (E 5), .int .u32 (E 6), .int .u32 (E 7)] 46 (0, 0)) := by rw [hE]; exact b10
          replace b4 : W.heap[gb4]? = some (.cells #[.int .u32 0, .int .u32 0, .int .u32 0, .int .u32 0, .int .u32 0, .int .u32 0, .int .u32 0, .int .u32 0] 46 (0, 0)) := b4
          have hc4_0 : W.cell? ⟨gb4, 0, none⟩ = some (.int .u32 0) := (blk_cell b4 0).trans rfl
          have hf4_0 := blk_frozen b4 0
          have hc4_1 : W.cell? ⟨gb4, 1, none⟩ = some (.int .u32 0) := (blk_cell b4 1).trans rfl
          have hf4_1 := blk_frozen b4 1
          have hc4_2 : W.cell? ⟨gb4, 2, none⟩ = some (.int .u32 0) := (blk_cell b4 2).trans rfl
          have hf4_2 := blk_frozen b4 2
          have hc4_3 : W.cell? ⟨gb4, 3, none⟩ = some (.int .u32 0) := (blk_cell b4 3).trans rfl
          have hf4_3 := blk_frozen b4 3
          have hc4_4 : W.cell? ⟨gb4, 4, none⟩ = some (.int .u32 0) := (blk_cell b4 4).trans rfl
          have hf4_4 := blk_frozen b4 4
          have hc4_5 : W.cell? ⟨gb4, 5, none⟩ = some (.int .u32 0) := (blk_cell b4 5).trans rfl
          have hf4_5 := blk_frozen b4 5
          have hc4_6 : W.cell? ⟨gb4, 6, none⟩ = some (.int .u32 0) := (blk_cell b4 6).trans rfl
          have hf4_6 := blk_frozen b4 6
          have hc4_7 : W.cell? ⟨gb4, 7, none⟩ = some (.int .u32 0) := (blk_cell b4 7).trans rfl
          have hf4_7 := blk_frozen b4 7
          have hc10_0 : W.cell? ⟨gb10, 0, none⟩ = some (.int .u32 (E 0)) := (blk_cell b10 0).trans rfl
          have hf10_0 := blk_frozen b10 0
          have hc10_1 : W.cell? ⟨gb10, 1, none⟩ = some (.int .u32 (E 1)) := (blk_cell b10 1).trans rfl
          have hf10_1 := blk_frozen b10 1
          have hc10_2 : W.cell? ⟨gb10, 2, none⟩ = some (.int .u32 (E 2)) := (blk_cell b10 2).trans rfl
          have hf10_2 := blk_frozen b10 2
          have hc10_3 : W.cell? ⟨gb10, 3, none⟩ = some (.int .u32 (E 3)) := (blk_cell b10 3).trans rfl
          have hf10_3 := blk_frozen b10 3
          have hc10_4 : W.cell? ⟨gb10, 4, none⟩ = some (.int .u32 (E 4)) := (blk_cell b10 4).trans rfl
          have hf10_4 := blk_frozen b10 4
          have hc10_5 : W.cell? ⟨gb10, 5, none⟩ = some (.int .u32 (E 5)) := (blk_cell b10 5).trans rfl
          have hf10_5 := blk_frozen b10 5
          have hc10_6 : W.cell? ⟨gb10, 6, none⟩ = some (.int .u32 (E 6)) := (blk_cell b10 6).trans rfl
          have hf10_6 := blk_frozen b10 6
          have hc10_7 : W.cell? ⟨gb10, 7, none⟩ = some (.int .u32 (E 7)) := (blk_cell b10 7).trans rfl
          have hf10_7 := blk_frozen b10 7
          have hne := Ne.symm NB4_10.out
          have hne' := NB4_10.out
          have HE := Aside0.mk hE
          clear hE hB b7
          go_wp2
          refine bodyPost_ret (v := .agg #[.int .u32 (E 0), .int .u32 (E 1), .int .u32 (E 2), .int .u32 (E 3), .int .u32 (E 4), .int .u32 (E 5), .int .u32 (E 6), .int .u32 (E 7)]) (results_single (r := .cell 4 46) rfl (.cell gb4 46 #[.int .u32 (E 0), .int .u32 (E 1), .int .u32 (E 2), .int .u32 (E 3), .int .u32 (E 4), .int .u32 (E 5), .int .u32 (E 6), .int .u32 (E 7)] (0, 0) _ rfl ?hg Tryd.underlying46 rfl (by kernel_rfl) .nil)) rfl ⟨?hv, ?hbl⟩
          case hg =>
            refine blk_put (cs := #[.int .u32 (E 0), .int .u32 (E 1), .int .u32 (E 2), .int .u32 (E 3), .int .u32 (E 4), .int .u32 (E 5), .int .u32 (E 6), .int .u32 0]) ?_ 7 _ rfl
            refine blk_put (cs := #[.int .u32 (E 0), .int .u32 (E 1), .int .u32 (E 2), .int .u32 (E 3), .int .u32 (E 4), .int .u32 (E 5), .int .u32 0, .int .u32 0]) ?_ 6 _ rfl
            refine blk_put (cs := #[.int .u32 (E 0), .int .u32 (E 1), .int .u32 (E 2), .int .u32 (E 3), .int .u32 (E 4), .int .u32 0, .int .u32 0, .int .u32 0]) ?_ 5 _ rfl
            refine blk_put (cs := #[.int .u32 (E 0), .int .u32 (E 1), .int .u32 (E 2), .int .u32 (E 3), .int .u32 0, .int .u32 0, .int .u32 0, .int .u32 0]) ?_ 4 _ rfl
            refine blk_put (cs := #[.int .u32 (E 0), .int .u32 (E 1), .int .u32 (E 2), .int .u32 0, .int .u32 0, .int .u32 0, .int .u32 0, .int .u32 0]) ?_ 3 _ rfl
            refine blk_put (cs := #[.int .u32 (E 0), .int .u32 (E 1), .int .u32 0, .int .u32 0, .int .u32 0, .int .u32 0, .int .u32 0, .int .u32 0]) ?_ 2 _ rfl
            refine blk_put (cs := #[.int .u32 (E 0), .int .u32 0, .int .u32 0, .int .u32 0, .int .u32 0, .int .u32 0, .int .u32 0, .int .u32 0]) ?_ 1 _ rfl
            refine blk_put (cs := #[.int .u32 0, .int .u32 0, .int .u32 0, .int .u32 0, .int .u32 0, .int .u32 0, .int .u32 0, .int .u32 0]) ?_ 0 _ rfl
            exact b4
          case hbl =>
            refine below_set ?_ GE4.out
            refine below_set ?_ GE4.out
            refine below_set ?_ GE4.out
            refine below_set ?_ GE4.out
            refine below_set ?_ GE4.out
            refine below_set ?_ GE4.out
            refine below_set ?_ GE4.out
            refine below_set ?_ GE4.out
            exact HBL.out
          case hv => rw [HE.out]; rfl
        · obtain ⟨i, hi⟩ : ∃ i, i = 7 - n := ⟨_, rfl⟩
          have hi8 : i < 8 := by omega
          obtain ⟨II, hII⟩ : ∃ z : Int, z = (i : Nat) := ⟨_, rfl⟩
          rw [show ((8 : Int) - ((n + 1 : Nat) : Int)) = (i : Int) by omega, show 8 - (n + 1) = i by omega] at hA_
          rw [show 8 - (n + 1) = i by omega] at b10
          obtain ⟨SI, hSI⟩ : ∃ z : Int, z = (S i : Nat) := ⟨_, rfl⟩
          obtain ⟨OV, hOV⟩ : ∃ z : Int, z = (cy S i : Nat) := ⟨_, rfl⟩
          have hs1 := HS.out i (by omega)
          have ho1 := cy_lt S HS.out i (by omega)
          have hs2 : 0 ≤ SI ∧ SI ≤ 1048576 := by omega
          have ho2 : 0 ≤ OV ∧ OV ≤ 17 := by omega
          have c7 : W.cell? ⟨gb7, i, none⟩ = some (.int .u64 SI) := by rw [hSI]; exact (blk_cell b7 i).trans (cells9_get _ _ (by omega))
          have f10 := blk_frozen b10 i
          obtain ⟨DV, c10⟩ : ∃ z : Int, W.cell? ⟨gb10, i, none⟩ = some (.int .u32 z) := ⟨_, (blk_cell b10 i).trans (cells8_get _ _ hi8)⟩
          rw [← hOV] at hA_
          rcases hA_ with ⟨t2, t3, t8, t9, t12, t13, t14, t15, t16, t17, t18, t19, t20, t21, t22, t23, t24, t25, t26, t27, t28, t29, t30, t31, t32, t33, t34, t35, t36, t37, t38, t39, t40, t41, t42, t43, t44, t45, t46, t47, t48, t49, t50, t51, t52, t53, t54, t55, t56, t57, t58, t59, t60, t62, t63, t64, t65, t66, t67, t68, t69, t70, t71, t72, t73, t74, t75, t76, t77⟩
          have HSI := Aside0.mk hSI
          have HOV := Aside0.mk hOV
          have HI := Aside0.mk hi
          have B4 := Aside0.mk b4
          have B7 := Aside0.mk b7
          have B10 := Aside0.mk b10
          have hi9 : 0 ≤ (i : Int) ∧ (i : Int) ≤ 7 := by omega
          clear hSI hOV hi hII hs1 ho1 b4 b7 b10 hB
          go_wp2
          have hv := dg_cy S i hi8
          rw [HV.out] at hv
          have hsi := HSI.out
          have hov := HOV.out
          have hii := HI.out
          rw [show (SI + OV) / 65536 = ((cy S (8 - n) : Nat) : Int) by rw [show 8 - n = i + 1 by omega]; simp only [cy]; omega, show (i : Int) + 1 = (8 : Int) - n by omega]
          exact hK3 n _ _ rfl ⟨by omega, MulAct3.mk .., below_set HBL.out GE10.out, blk_far B4.out NB4_10.out _, blk_far B7.out NB7_10.out _, blk_put B10.out i _ (cells8_set _ _ _ hi8 _ (by rw [if_pos (by omega), hv]; omega) (fun q hq => by
            show (if q < 8 - n then dg (a * b) q else 0) = (if q < i then dg (a * b) q else 0)
            by_cases c : q < i
            · rw [if_pos c, if_pos (by omega)]
            · rw [if_neg c, if_neg (by omega)]))⟩
    · obtain ⟨i, hi⟩ : ∃ i, i = 3 - m := ⟨_, rfl⟩
      have hi4 : i < 4 := by omega
      obtain ⟨II, hII⟩ : ∃ z : Int, z = (i : Nat) := ⟨_, rfl⟩
      rw [show ((4 : Int) - ((m + 1 : Nat) : Int)) = II by omega] at hA_
      rcases hA_ with ⟨t2, t3, t9, t10, t11, t12, t13, t14, t15, t16, t17, t18, t19, t20, t21, t22, t23, t24, t25, t26, t27, t28, t29, t30, t31, t32, t33, t34, t35, t36, t37, t38, t39, t40, t41, t42, t43, t44, t45, t46, t47, t48, t49, t50, t51, t52, t53, t54, t55, t56, t57, t58, t59, t60, t61, t62, t63, t64, t65, t66, t67, t68, t69, t70, t71, t72, t73, t74, t75, t76, t77⟩
      rw [show 4 - (m + 1) = i by omega] at hV hS
      have hi5 : 0 ≤ II ∧ II ≤ 3 := by omega
      have HBL := Aside0.mk hB
      have HV := Aside0.mk hV
      have HS := Aside0.mk hS
      have B4 := Aside0.mk b4
      have B5 := Aside0.mk b5
      have B6 := Aside0.mk b6
      have B7 := Aside0.mk b7
      clear hB b4 b5 b6 b7 hV hS
      go_wp2
      refine wp_loop_rounds 5 ?_
      refine rounds_inv (I := fun k a_ W => k ≤ 4 ∧ ∃ (S : Nat → Nat), V9 S = prt9 a b i (4 - k) ∧ (∀ q, q < 9 → S q ≤ 65536 * (4 * i + (4 - k))) ∧ MulAct2 PA PB gb4 gb5 gb6 gb7 II ((4 : Int) - k) a_ ∧ Below w.heap.size w W ∧ W.heap[gb4]? = some (.cells (cells8 (fun _ => 0)) 46 (0, 0)) ∧ W.heap[gb5]? = some (.cells (cells8 (dg a)) 46 (0, 0)) ∧ W.heap[gb6]? = some (.cells (cells8 (dg b)) 46 (0, 0)) ∧ W.heap[gb7]? = some (.cells (cells9 S) 64 (0, 0))) ?step2 4 _ _ ?init2
      case init2 =>
        exact ⟨Nat.le_refl _, S, HV.out, HS.out, MulAct2.mk .., HBL.out, B4.out, B5.out, B6.out, B7.out⟩
      case step2 =>
        clear B4 B5 B6 B7 HBL HV HS
        rintro n a_ W ⟨hk, S, hV, hS, hA_, hB, b4, b5, b6, b7⟩ K2 hK2
        rcases n with _ | n
        · rw [show ((4 : Int) - ((0 : Nat) : Int)) = 4 from rfl] at hA_
          rcases hA_ with ⟨t2, t3, t10, t11, t12, t13, t14, t15, t16, t17, t18, t19, t20, t21, t22, t23, t24, t25, t26, t27, t28, t29, t30, t31, t32, t33, t34, t35, t36, t37, t38, t39, t40, t41, t42, t43, t44, t45, t46, t47, t48, t49, t50, t51, t52, t53, t54, t55, t56, t57, t58, t59, t60, t61, t62, t63, t64, t65, t66, t67, t68, t69, t70, t71, t72, t73, t74, t75, t76, t77⟩
          go_wp2
          rw [show ((3 - m : Nat) : Int) + 1 = (4 : Int) - m by omega]
          exact hK1 m _ _ rfl ⟨by omega, S, by rw [show 4 - m = i + 1 by omega, ← prt_i a b i Hltb.out]; exact hV, by rw [show 4 * (4 - m) = 4 * i + (4 - 0) by omega]; exact hS, MulAct1.mk .., hB, b4, b5, b6, b7⟩
        · obtain ⟨j, hj⟩ : ∃ j, j = 3 - n := ⟨_, rfl⟩
          have hj4 : j < 4 := by omega
          obtain ⟨JJ, hJJ⟩ : ∃ z : Int, z = (j : Nat) := ⟨_, rfl⟩
          rw [show ((4 : Int) - ((n + 1 : Nat) : Int)) = JJ by omega] at hA_
          rcases hA_ with ⟨t2, t3, t10, t11, t12, t13, t14, t15, t16, t17, t18, t19, t20, t21, t22, t23, t24, t25, t26, t27, t28, t29, t30, t31, t32, t33, t34, t35, t36, t37, t38, t39, t40, t41, t42, t43, t44, t45, t46, t47, t48, t49, t50, t51, t52, t53, t54, t55, t56, t57, t58, t59, t60, t61, t62, t63, t64, t65, t66, t67, t68, t69, t70, t71, t72, t73, t74, t75, t76, t77⟩
          rw [show 4 - (n + 1) = j by omega] at hV hS
          have hj5 : 0 ≤ JJ ∧ JJ ≤ 3 := by omega
          have HBL := Aside0.mk hB
          have HV := Aside0.mk hV
          have HS := Aside0.mk hS
          have B4 := Aside0.mk b4
          have B5 := Aside0.mk b5
          have B6 := Aside0.mk b6
          have B7 := Aside0.mk b7
          clear hB b4 b5 b6 b7 hV hS
          go_wp2
          trace "R9"
          refine mulr9 _ ?o9 _ _ gb5 gb6 gb7 i j (i + j) ((S (i + j) : Nat) : Int) ((dg a i : Nat) : Int) ((dg b j : Nat) : Int) _ _ _ _ _ _ _ _ _ _ _ _ _ _ _ _ _ _ _ _ _ _ _ _ _ _ _ _ _ _ _ _ _ _ _ _ _ _ _ _ _ _ _ _ _ _ _ _ _ _ _ _ _ _ _ _ _ _ _ _ _ _ _ _ _ _ _ _ _ _ _ _ _ _ ?q9 ?f9 ?x9 ?y9 ?s9 ((dg a i * dg b j : Nat) : Int) ?p9 ?p90 II JJ hII hJJ hi4 hj4 rfl ?cx9 ?cy9 ?cs9 ?H9
          case o9 => rfl
          case q9 => exact fun _ _ d _ _ h => by cases d <;> exact h
          case f9 => exact blk_frozen B7.out _
          case x9 => have := dg_lt a i; omega
          case y9 => have := dg_lt b j; omega
          case s9 => have := HS.out (i + j) (by omega); omega
          case p9 => exact (Int.natCast_mul _ _).symm
          case p90 => have h1 := Nat.mul_le_mul (Nat.le_of_lt_succ (dg_lt a i)) (Nat.le_of_lt_succ (dg_lt b j)); omega
          case cx9 => exact (blk_cell B5.out i).trans (cells8_get _ _ (by omega))
          case cy9 => exact (blk_cell B6.out j).trans (cells8_get _ _ (by omega))
          case cs9 => exact (blk_cell B7.out (i + j)).trans (cells9_get _ _ (by omega))
          intros
          obtain ⟨W1, hW1⟩ : ∃ W1, W1 = (W.setCell ⟨gb7, i + j, none⟩ (.int .u64 (((S (i + j) : Nat) : Int) + ((dg a i * dg b j : Nat) : Int) % 65536))).drew := ⟨_, rfl⟩
          rw [← hW1]
          obtain ⟨S1, hS1⟩ : ∃ S1, S1 = up9 S (i + j) (dg a i * dg b j % 65536) := ⟨_, rfl⟩
          have C4 : W1.heap[gb4]? = some (.cells (cells8 (fun _ => 0)) 46 (0, 0)) := by rw [hW1]; exact blk_drew (blk_far B4.out NB4_7.out _)
          have C5 : W1.heap[gb5]? = some (.cells (cells8 (dg a)) 46 (0, 0)) := by rw [hW1]; exact blk_drew (blk_far B5.out NB5_7.out _)
          have C6 : W1.heap[gb6]? = some (.cells (cells8 (dg b)) 46 (0, 0)) := by rw [hW1]; exact blk_drew (blk_far B6.out NB6_7.out _)
          have C7 : W1.heap[gb7]? = some (.cells (cells9 S1) 64 (0, 0)) := by rw [hW1]; exact blk_drew (blk_put B7.out (i + j) _ (cells9_set _ _ _ (by omega) _ (by rw [hS1]; unfold up9; rw [if_pos rfl]; omega) (fun q hq => by rw [hS1]; exact if_neg hq)))
          have CB : Below w.heap.size w W1 := by rw [hW1]; exact below_drew1 (below_set HBL.out GE7.out)
          have e1 : S1 (i + j + 1) = S (i + j + 1) := by rw [hS1]; exact if_neg (by omega)
          clear hW1 B4 B5 B6 B7 HBL
          have D4 := Aside0.mk C4
          have D5 := Aside0.mk C5
          have D6 := Aside0.mk C6
          have D7 := Aside0.mk C7
          have DB := Aside0.mk CB
          clear C4 C5 C6 C7 CB
          trace "R10"
          (try go_wp2)
          refine mulr10 _ ?o10 _ _ gb5 gb6 gb7 i j (i + j + 1) ((S1 (i + j + 1) : Nat) : Int) ((dg a i : Nat) : Int) ((dg b j : Nat) : Int) _ _ _ _ _ _ _ _ _ _ _ _ _ _ _ _ _ _ _ _ _ _ _ _ _ _ _ _ _ _ _ _ _ _ _ _ _ _ _ _ _ _ _ _ _ _ _ _ _ _ _ _ _ _ _ _ _ _ _ _ _ _ _ _ _ _ _ _ _ _ _ _ _ _ ?q10 ?f10 ?x10 ?y10 ?s10 ((dg a i * dg b j : Nat) : Int) ?p10 ?p100 II JJ hII hJJ hi4 hj4 rfl ?cx10 ?cy10 ?cs10 ?H10
          case o10 => rfl
          case q10 => exact fun _ _ d _ _ h => by cases d <;> exact h
          case f10 => exact blk_frozen D7.out _
          case x10 => have := dg_lt a i; omega
          case y10 => have := dg_lt b j; omega
          case s10 => rw [e1]; have := HS.out (i + j + 1) (by omega); omega
          case p10 => exact (Int.natCast_mul _ _).symm
          case p100 => have h1 := Nat.mul_le_mul (Nat.le_of_lt_succ (dg_lt a i)) (Nat.le_of_lt_succ (dg_lt b j)); omega
          case cx10 => exact (blk_cell D5.out i).trans (cells8_get _ _ (by omega))
          case cy10 => exact (blk_cell D6.out j).trans (cells8_get _ _ (by omega))
          case cs10 => exact (blk_cell D7.out (i + j + 1)).trans (cells9_get _ _ (by omega))
          intros
          obtain ⟨W2, hW2⟩ : ∃ W2, W2 = (W1.setCell ⟨gb7, i + j + 1, none⟩ (.int .u64 (((S1 (i + j + 1) : Nat) : Int) + ((dg a i * dg b j : Nat) : Int) / 65536))).drew := ⟨_, rfl⟩
          rw [← hW2]
          obtain ⟨S2, hS2⟩ : ∃ S2, S2 = up9 S1 (i + j + 1) (dg a i * dg b j / 65536) := ⟨_, rfl⟩
          have C4 := Aside0.mk (show W2.heap[gb4]? = some (.cells (cells8 (fun _ => 0)) 46 (0, 0)) by rw [hW2]; exact blk_drew (blk_far D4.out NB4_7.out _))
          have C5 := Aside0.mk (show W2.heap[gb5]? = some (.cells (cells8 (dg a)) 46 (0, 0)) by rw [hW2]; exact blk_drew (blk_far D5.out NB5_7.out _))
          have C6 := Aside0.mk (show W2.heap[gb6]? = some (.cells (cells8 (dg b)) 46 (0, 0)) by rw [hW2]; exact blk_drew (blk_far D6.out NB6_7.out _))
          have C7 := Aside0.mk (show W2.heap[gb7]? = some (.cells (cells9 S2) 64 (0, 0)) by rw [hW2]; exact blk_drew (blk_put D7.out (i + j + 1) _ (cells9_set _ _ _ (by omega) _ (by rw [hS2]; unfold up9; rw [if_pos rfl]; omega) (fun q hq => by rw [hS2]; exact if_neg hq))))
          have CB := Aside0.mk (show Below w.heap.size w W2 by rw [hW2]; exact below_drew1 (below_set DB.out GE7.out))
          clear hW2 D4 D5 D6 D7 DB
          trace "R8"
          go_wp2
          rw [show ((3 - n : Nat) : Int) + 1 = (4 : Int) - n by omega]
          refine hK2 n _ _ rfl ⟨by omega, S2, ?v2, ?b2, MulAct2.mk .., CB.out, C4.out, C5.out, C6.out, C7.out⟩
          case v2 => rw [show 4 - n = j + 1 by omega, hS2, hS1]; exact two_up S a b i j _ HV.out hi4 hj4 rfl
          case b2 =>
            have hp := Nat.mul_le_mul (Nat.le_of_lt_succ (dg_lt a i)) (Nat.le_of_lt_succ (dg_lt b j))
            intro q hq
            have h1 := HS.out q hq
            rw [hS2, hS1]
            unfold up9
            by_cases c1 : q = i + j + 1
            · rw [if_pos c1, if_neg (by omega)]; omega
            · rw [if_neg c1]
              by_cases c2 : q = i + j
              · rw [if_pos c2]; omega
              · rw [if_neg c2]; omega
theorem arrearsref03_Mul.calls (a0 a1 : Int) (r1 : Int) (r2 : Int) (r3 : Int) (r4 : Int) (r5 : Int) (r6 : Int) (r7 : Int) (r8 : Int) (w : World) (h : arrearsref03_Mul.f a0 a1 = some (r1, r2, r3, r4, r5, r6, r7, r8)) :
    Calls Tryd.prog 21 #[.int .u64 a0, .int .u64 a1] w fun e w' => e = .returned (.agg #[.int .u32 r1, .int .u32 r2, .int .u32 r3, .int .u32 r4, .int .u32 r5, .int .u32 r6, .int .u32 r7, .int .u32 r8]) ∧ Below w.heap.size w w' := by
  unfold arrearsref03_Mul.f at h
  split at h
  · rename_i hb
    simp only [Option.some.injEq, Prod.mk.injEq] at h
    obtain ⟨rfl, rfl, rfl, rfl, rfl, rfl, rfl, rfl⟩ := h
    have hd := refmul_walk a0.toNat a1.toNat (by omega) (by omega) w
    rw [Int.toNat_of_nonneg hb.1.1, Int.toNat_of_nonneg hb.2.1] at hd
    exact hd
  · exact absurd h (by simp)
end


/-! ### wide_Wide_Less: function 22 -/
def wide_Wide_Less.f (a0_0 : Int) (a0_1 : Int) (a1_0 : Int) (a1_1 : Int) : Option Bool :=
  if (0 ≤ a0_0 ∧ a0_0 ≤ 18446744073709551615) ∧ (0 ≤ a0_1 ∧ a0_1 ≤ 18446744073709551615) ∧ (0 ≤ a1_0 ∧ a1_0 ≤ 18446744073709551615) ∧ (0 ≤ a1_1 ∧ a1_1 ≤ 18446744073709551615) then some (decide (a0_0 < a1_0 ∨ a0_0 = a1_0 ∧ a0_1 < a1_1)) else none
theorem sub64_at (x y b : Nat) (hb : b ≤ 1) (c : Nat) (hc : (if x < y + b then 1 else 0) = c) : ∃ d : Int, ∀ w, (callFunc 30 #[.int .u64 x, .int .u64 y, .int .u64 (b : Int)]).run Tryd.prog w = .ok (.value (.tuple #[.int .u64 d, .int .u64 (c : Int)])) w := by
  refine ⟨(((x + 18446744073709551616 - y - b) % 18446744073709551616 : Nat) : Int), fun w => ?_⟩
  rw [run_callFunc_extern Tryd.func30 (by kernel_rfl) (by kernel_rfl) (by kernel_rfl) (e := sub64Entry) (by kernel_rfl), run_sub64 x y b hb, hc]
  rfl
set_option maxHeartbeats 4000000 in
theorem less_walk (x y u v : Nat) (c1 c2 : Nat) (h1 : c1 ≤ 1) (e1 : (if y < v + 0 then 1 else 0) = c1) (e2 : (if x < u + c1 then 1 else 0) = c2) (r : Bool) (hr : ((c2 : Int) == 1) = r) (w : World) :
    Calls Tryd.prog 22 #[.agg #[.int .u64 x, .int .u64 y], .agg #[.int .u64 u, .int .u64 v]] w fun e w' => e = .returned (.bool r) ∧ Below w.heap.size w w' := by
  obtain ⟨d1, s1⟩ := sub64_at y v 0 (by omega) c1 e1
  obtain ⟨d2, s2⟩ := sub64_at x u c1 h1 c2 e2
  clear e1 e2 h1
  simp only [Int.natCast_zero] at s1
  go_enter Tryd.func22, Tryd.ntmps22
  go_wp2
  go_ret
  exact ⟨by first | rfl | (rw [← hr]; rfl) | (simp [← hr]; done) | (simp [hr]; done), by repeat (first | exact Below.refl _ _ | apply below_alloc | apply pw_below_drewN | apply below_drew1)⟩
theorem wide_Wide_Less.calls (a0_0 : Int) (a0_1 : Int) (a1_0 : Int) (a1_1 : Int) (r : Bool) (w : World) (h : wide_Wide_Less.f a0_0 a0_1 a1_0 a1_1 = some r) :
    Calls Tryd.prog 22 #[.agg #[.int .u64 a0_0, .int .u64 a0_1], .agg #[.int .u64 a1_0, .int .u64 a1_1]] w fun e w' => e = .returned (.bool r) ∧ Below w.heap.size w w' := by
  unfold wide_Wide_Less.f at h
  split at h
  · rename_i hb
    obtain ⟨⟨p1, _⟩, ⟨p2, _⟩, ⟨p3, _⟩, ⟨p4, _⟩⟩ := hb
    obtain ⟨x, rfl⟩ := Int.eq_ofNat_of_zero_le p1
    obtain ⟨y, rfl⟩ := Int.eq_ofNat_of_zero_le p2
    obtain ⟨u, rfl⟩ := Int.eq_ofNat_of_zero_le p3
    obtain ⟨v, rfl⟩ := Int.eq_ofNat_of_zero_le p4
    obtain rfl := Option.some.inj h
    refine less_walk x y u v (if y < v + 0 then 1 else 0) (if x < u + (if y < v + 0 then 1 else 0) then 1 else 0) (by split <;> omega) rfl rfl _ ?_ w
    by_cases c : y < v
    · rw [if_pos (show y < v + 0 from c)]
      by_cases c' : x < u + 1
      · rw [if_pos c']
        symm
        rw [show (((1 : Nat) : Int) == 1) = true from rfl]
        exact decide_eq_true (by omega)
      · rw [if_neg c']
        symm
        rw [show (((0 : Nat) : Int) == 1) = false from rfl]
        exact decide_eq_false (by omega)
    · rw [if_neg (show ¬ y < v + 0 from c)]
      by_cases c' : x < u + 0
      · rw [if_pos c']
        symm
        rw [show (((1 : Nat) : Int) == 1) = true from rfl]
        exact decide_eq_true (by omega)
      · rw [if_neg c']
        symm
        rw [show (((0 : Nat) : Int) == 1) = false from rfl]
        exact decide_eq_false (by omega)
  · exact absurd h (by simp)


end Go.Proofs.YtfpbibfoipbahaaDoor.PWideReckons
