-- Printed by a wrapper of this session's round the kit's print.py; Lean checks it.
import Derived.Test.YtfpbibfoipbahaaDoorPWideReckonsx0
import Derived.Test.YtfpbibfoipbahaaDoorPWideReckonsx2
namespace Go.Proofs.YtfpbibfoipbahaaDoor.PWideReckons
open Go.RowKit Go.Proofs.YtfpbibfoipbahaaDoorW.PrintWords Go.Proofs.YtfpbibfoipbahaaDoorW.PrintLast Go.Proofs.YtfpbibfoipbahaaDoorW.PrintMore
attribute [local go_sem] max2_int min2_int max_two min_two max_three min_three max_four min_four   -- for this text's walks alone
set_option linter.unusedVariables false
set_option linter.unusedSimpArgs false

/-! ### arrearslaw03_awake: function 8 -/
def arrearslaw03_awake.f (k : Nat)  : Option (Bool) := (wide_Scale.f k 9223372036854775808 6 4).bind fun bt122 => (if bt122.1 = 13835058055282163712 then (if bt122.2.1 = 0 then (if bt122.2.2.isNone = true then (some true) else (some false)) else (some false)) else (some false))
theorem arrearslaw03_awake.mono : ∀ k, LeO (arrearslaw03_awake.f k ) (arrearslaw03_awake.f (k + 1) ) := by
  intro  k
  unfold arrearslaw03_awake.f
  repeat' first
      | (with_reducible exact wide_Scale.mono _ _ _ _)
      | (with_reducible exact LeO.refl _)
      | (with_reducible exact LeO.none _)
      | (with_reducible refine LeO.ite ?_ ?_)
      | (with_reducible refine LeO.bind ?_ (fun _ => ?_))
      | exact wide_Scale.mono _ _ _ _
      | exact LeO.none _
      | refine LeO.ite ?_ ?_
      | refine LeO.bind ?_ (fun _ => ?_)
set_option maxHeartbeats 8000000 in
set_option maxRecDepth 100000 in
theorem arrearslaw03_awake.calls (k : Nat)  (r : Bool) (w : World) (h : arrearslaw03_awake.f k  = some r) :
    Calls Tryd.prog 8 #[] w fun e w' => e = .returned (.bool r) ∧ Below w.heap.size w w' := by
  have hu25 := Tryd.underlying25
  have hu30 := Tryd.underlying30
  have HB := Aside0.mk (Below.refl w.heap.size w)
  have H : ((wide_Scale.f k 9223372036854775808 6 4).bind fun bt122 => (if bt122.1 = 13835058055282163712 then (if bt122.2.1 = 0 then (if bt122.2.2.isNone = true then (some true) else (some false)) else (some false)) else (some false))) = some r := h
  clear h
  replace H := Option.bind_eq_some_iff.mp H
  obtain ⟨⟨t122, t123, t124⟩, A10, H⟩ := H
  replace H : (if t122 = 13835058055282163712 then (if t123 = 0 then (if t124.isNone = true then (some true) else (some false)) else (some false)) else (some false)) = some r := H
  have A1 := Aside0.mk A10
  clear A10
  by_cases c2 : t122 = 13835058055282163712
  · rw [if_pos c2] at H
    have c2b0 : (t122 == 13835058055282163712) = true := beq_iff_eq.mpr c2
    have c2b1 : (t122 != 13835058055282163712) = false := bne_eq_false_iff_eq.mpr c2
    clear c2
    by_cases c3 : t123 = 0
    · rw [if_pos c3] at H
      have c3b0 : (t123 == 0) = true := beq_iff_eq.mpr c3
      have c3b1 : (t123 != 0) = false := bne_eq_false_iff_eq.mpr c3
      clear c3
      rcases t124 with _ | q125
      · have H1 : (some true) = some r := by rw [if_pos (show (none : Option Int).isNone = true by rfl)] at H; exact H
        clear H
        have H := H1
        clear H1
        try simp only [errW_none, errW_some]
        obtain rfl := Option.some.inj H
        go_enter Tryd.func8, Tryd.ntmps8
        go_wp2_with (first | ((with_reducible refine gate_callee (f := 9) rfl ?_); refine goesL_ (some 5) rfl rfl Tryd.func9 (by kernel_rfl) rfl #[.int .u64 9223372036854775808, .int .u64 6, .int .u64 4] rfl (by (try simp only [List.map_toArray, List.map_cons, List.map_nil]); first | done | rfl | (simp only [List.length_drop, List.length_take]; rfl)) ?_; (with_reducible refine (wide_Scale.calls k 9223372036854775808 6 4 t122 t123 none _ A1.out).mono ?_); rintro e w4 ⟨rfl, hb⟩; refine ⟨_, rfl, ?_⟩; have n0_ := Aside0.mk (below_step (by repeat (first | (with_reducible first | exact HB.out | apply below_alloc | apply pw_below_drewN | apply below_drew1) | exact HB.out)) hb); clear HB; have HB := n0_; clear n0_; (try clear hb); (try clear hb2); (try clear hk); (try clear hi); (try simp only [errW_none, errW_some])))
        go_ret
        exact ⟨by first | rfl | (simp [errW_none, errW_some] <;> rfl) | (simp [*, errW_none, errW_some] <;> rfl), by repeat (first | (with_reducible first | exact HB.out | apply below_alloc | apply pw_below_drewN | apply below_drew1) | exact HB.out)⟩
      · have H1 : (some false) = some r := by rw [if_neg (show ¬ (some q125).isNone = true by simp)] at H; exact H
        clear H
        have H := H1
        clear H1
        try simp only [errW_none, errW_some]
        obtain rfl := Option.some.inj H
        go_enter Tryd.func8, Tryd.ntmps8
        go_wp2_with (first | ((with_reducible refine gate_callee (f := 9) rfl ?_); refine goesL_ (some 5) rfl rfl Tryd.func9 (by kernel_rfl) rfl #[.int .u64 9223372036854775808, .int .u64 6, .int .u64 4] rfl (by (try simp only [List.map_toArray, List.map_cons, List.map_nil]); first | done | rfl | (simp only [List.length_drop, List.length_take]; rfl)) ?_; (with_reducible refine (wide_Scale.calls k 9223372036854775808 6 4 t122 t123 (some q125) _ A1.out).mono ?_); rintro e w5 ⟨rfl, hb⟩; refine ⟨_, rfl, ?_⟩; have n0_ := Aside0.mk (below_step (by repeat (first | (with_reducible first | exact HB.out | apply below_alloc | apply pw_below_drewN | apply below_drew1) | exact HB.out)) hb); clear HB; have HB := n0_; clear n0_; (try clear hb); (try clear hb2); (try clear hk); (try clear hi); (try simp only [errW_none, errW_some])))
        go_ret
        exact ⟨by first | rfl | (simp [errW_none, errW_some] <;> rfl) | (simp [*, errW_none, errW_some] <;> rfl), by repeat (first | (with_reducible first | exact HB.out | apply below_alloc | apply pw_below_drewN | apply below_drew1) | exact HB.out)⟩
    · rw [if_neg c3] at H
      have c3b0 : (t123 == 0) = false := beq_eq_false_iff_ne.mpr c3
      have c3b1 : (t123 != 0) = true := bne_iff_ne.mpr c3
      obtain rfl := Option.some.inj H
      go_enter Tryd.func8, Tryd.ntmps8
      go_wp2_with (first | ((with_reducible refine gate_callee (f := 9) rfl ?_); refine goesL_ (some 5) rfl rfl Tryd.func9 (by kernel_rfl) rfl #[.int .u64 9223372036854775808, .int .u64 6, .int .u64 4] rfl (by (try simp only [List.map_toArray, List.map_cons, List.map_nil]); first | done | rfl | (simp only [List.length_drop, List.length_take]; rfl)) ?_; (with_reducible refine (wide_Scale.calls k 9223372036854775808 6 4 t122 t123 t124 _ A1.out).mono ?_); rintro e w6 ⟨rfl, hb⟩; refine ⟨_, rfl, ?_⟩; have n0_ := Aside0.mk (below_step (by repeat (first | (with_reducible first | exact HB.out | apply below_alloc | apply pw_below_drewN | apply below_drew1) | exact HB.out)) hb); clear HB; have HB := n0_; clear n0_; (try clear hb); (try clear hb2); (try clear hk); (try clear hi); (try simp only [errW_none, errW_some])))
      go_ret
      exact ⟨by first | rfl | (simp [errW_none, errW_some] <;> rfl) | (simp [*, errW_none, errW_some] <;> rfl), by repeat (first | (with_reducible first | exact HB.out | apply below_alloc | apply pw_below_drewN | apply below_drew1) | exact HB.out)⟩
  · rw [if_neg c2] at H
    have c2b0 : (t122 == 13835058055282163712) = false := beq_eq_false_iff_ne.mpr c2
    have c2b1 : (t122 != 13835058055282163712) = true := bne_iff_ne.mpr c2
    obtain rfl := Option.some.inj H
    go_enter Tryd.func8, Tryd.ntmps8
    go_wp2_with (first | ((with_reducible refine gate_callee (f := 9) rfl ?_); refine goesL_ (some 5) rfl rfl Tryd.func9 (by kernel_rfl) rfl #[.int .u64 9223372036854775808, .int .u64 6, .int .u64 4] rfl (by (try simp only [List.map_toArray, List.map_cons, List.map_nil]); first | done | rfl | (simp only [List.length_drop, List.length_take]; rfl)) ?_; (with_reducible refine (wide_Scale.calls k 9223372036854775808 6 4 t122 t123 t124 _ A1.out).mono ?_); rintro e w7 ⟨rfl, hb⟩; refine ⟨_, rfl, ?_⟩; have n0_ := Aside0.mk (below_step (by repeat (first | (with_reducible first | exact HB.out | apply below_alloc | apply pw_below_drewN | apply below_drew1) | exact HB.out)) hb); clear HB; have HB := n0_; clear n0_; (try clear hb); (try clear hb2); (try clear hk); (try clear hi); (try simp only [errW_none, errW_some])))
    go_ret
    exact ⟨by first | rfl | (simp [errW_none, errW_some] <;> rfl) | (simp [*, errW_none, errW_some] <;> rfl), by repeat (first | (with_reducible first | exact HB.out | apply below_alloc | apply pw_below_drewN | apply below_drew1) | exact HB.out)⟩

/-! ### api_Code: function 11 -/
open Go.Proofs.YtfpbibfoipbahaaDoor.M (Laid Laid.below Laid.et as_hit)
def api_Code.f (a0 : Option Int) : Option Int := some (a0.getD 0)
set_option maxHeartbeats 8000000 in
theorem api_Code.calls (a0 : Option Int) (r : Int) (w : World) (hG : Laid w) (h : api_Code.f a0 = some r) :
    Calls Tryd.prog 11 #[errW a0] w fun e w' => e = .returned (.int .i64 r) ∧ Below w.heap.size w w' := by
  unfold api_Code.f at h
  obtain rfl := Option.some.inj h
  cases a0 with
  | none =>
    go_enter Tryd.func11, Tryd.ntmps11
    simp only [errW_none]
    go_wp2
    go_ret
    exact ⟨rfl, Below.refl _ _⟩
  | some c =>
    have hw : Laid (w.alloc (.cells #[.int .i64 0] 30)) := Laid.below hG (below_alloc (Below.refl _ _) _)
    have hit := as_hit c ⟨w.heap.size, 0, none⟩ (.int .i64 0) (w.alloc (.cells #[.int .i64 0] 30)) hw.et (by simp) (by simp)
    have HIT := Aside0.mk hit
    clear hit hw hG
    go_enter Tryd.func11, Tryd.ntmps11
    simp only [errW_some]
    go_wp2_with (go_at_call 26; refine HIT.out.mono ?_; rintro e w' ⟨rfl, rfl⟩)
    go_ret
    exact ⟨rfl, by repeat (first | exact Below.refl _ _ | apply below_alloc | apply pw_below_drewN | apply below_drew1 | (refine below_set ?_ (Nat.le_refl _)))⟩


/-! ### wide_Wide_Plus: function 15 -/
def wide_Wide_Plus.f (a0_0 : Int) (a0_1 : Int) (a1_0 : Int) (a1_1 : Int) : Option (Int × Int × Option Int) :=
  if (0 ≤ a0_0 ∧ a0_0 ≤ 18446744073709551615) ∧ (0 ≤ a0_1 ∧ a0_1 ≤ 18446744073709551615) ∧ (0 ≤ a1_0 ∧ a1_0 ≤ 18446744073709551615) ∧ (0 ≤ a1_1 ∧ a1_1 ≤ 18446744073709551615) then
    (if a0_0 + a1_0 + (a0_1 + a1_1) / 18446744073709551616 ≤ 18446744073709551615 then some (a0_0 + a1_0 + (a0_1 + a1_1) / 18446744073709551616, (a0_1 + a1_1) % 18446744073709551616, none) else some (0, 0, some 12)) else none
theorem add64_at (x y c : Int) (hx : 0 ≤ x) (hy : 0 ≤ y) (hc0 : 0 ≤ c) (hc : c ≤ 1) (s o : Int) (hs : (x + y + c) % 18446744073709551616 = s) (ho : (x + y + c) / 18446744073709551616 = o) : ∀ w, (callFunc 29 #[.int .u64 x, .int .u64 y, .int .u64 c]).run Tryd.prog w = .ok (.value (.tuple #[.int .u64 s, .int .u64 o])) w := by
  intro w
  rw [run_callFunc_extern Tryd.func29 (by kernel_rfl) (by kernel_rfl) (by kernel_rfl) (e := add64Entry) (by kernel_rfl), run_add64 x y c hx hy hc0 hc, hs, ho]
  rfl
set_option maxHeartbeats 4000000 in
theorem plus_ok (x y u v s1 o1 s2 : Int) (A1 : ∀ w, (callFunc 29 #[.int .u64 y, .int .u64 v, .int .u64 0]).run Tryd.prog w = .ok (.value (.tuple #[.int .u64 s1, .int .u64 o1])) w) (A2 : ∀ w, (callFunc 29 #[.int .u64 x, .int .u64 u, .int .u64 o1]).run Tryd.prog w = .ok (.value (.tuple #[.int .u64 s2, .int .u64 0])) w) (w : World) :
    Calls Tryd.prog 15 #[.agg #[.int .u64 x, .int .u64 y], .agg #[.int .u64 u, .int .u64 v]] w fun e w' => e = .returned (.tuple #[.agg #[.int .u64 s2, .int .u64 s1], errW none]) ∧ Below w.heap.size w w' := by
  go_enter Tryd.func15, Tryd.ntmps15
  go_wp2
  refine bodyPost_ret (v := .tuple #[.agg #[.int .u64 s2, .int .u64 s1], .nilIface]) (by simp [results, Tryd.results15, go_sem]) rfl ⟨rfl, ?_⟩
  repeat (first | exact Below.refl _ _ | apply below_alloc | apply pw_below_drewN | apply below_drew1 | (refine below_set ?_ (by simp; omega)))
set_option maxHeartbeats 4000000 in
theorem plus_over (x y u v s1 o1 s2 : Int) (A1 : ∀ w, (callFunc 29 #[.int .u64 y, .int .u64 v, .int .u64 0]).run Tryd.prog w = .ok (.value (.tuple #[.int .u64 s1, .int .u64 o1])) w) (A2 : ∀ w, (callFunc 29 #[.int .u64 x, .int .u64 u, .int .u64 o1]).run Tryd.prog w = .ok (.value (.tuple #[.int .u64 s2, .int .u64 1])) w) (w : World) :
    Calls Tryd.prog 15 #[.agg #[.int .u64 x, .int .u64 y], .agg #[.int .u64 u, .int .u64 v]] w fun e w' => e = .returned (.tuple #[.agg #[.int .u64 0, .int .u64 0], errW (some 12)]) ∧ Below w.heap.size w w' := by
  go_enter Tryd.func15, Tryd.ntmps15
  go_wp2
  refine bodyPost_ret (v := .tuple #[.agg #[.int .u64 0, .int .u64 0], errW (some 12)]) (by simp [results, Tryd.results15, go_sem, errW_some]) rfl ⟨rfl, ?_⟩
  repeat (first | exact Below.refl _ _ | apply below_alloc | apply pw_below_drewN | apply below_drew1 | (refine below_set ?_ (by simp; omega)))
theorem wide_Wide_Plus.calls (a0_0 : Int) (a0_1 : Int) (a1_0 : Int) (a1_1 : Int) (r1 : Int) (r2 : Int) (r3 : Option Int) (w : World) (h : wide_Wide_Plus.f a0_0 a0_1 a1_0 a1_1 = some (r1, r2, r3)) :
    Calls Tryd.prog 15 #[.agg #[.int .u64 a0_0, .int .u64 a0_1], .agg #[.int .u64 a1_0, .int .u64 a1_1]] w fun e w' => e = .returned (.tuple #[.agg #[.int .u64 r1, .int .u64 r2], errW r3]) ∧ Below w.heap.size w w' := by
  unfold wide_Wide_Plus.f at h
  split at h
  · rename_i hb
    split at h
    · rename_i hl
      simp only [Option.some.injEq, Prod.mk.injEq] at h
      obtain ⟨rfl, rfl, rfl⟩ := h
      exact plus_ok _ _ _ _ _ _ _ (add64_at _ _ 0 (by omega) (by omega) (by omega) (by omega) _ _ (by rw [Int.add_zero]) (by rw [Int.add_zero])) (add64_at _ _ _ (by omega) (by omega) (by omega) (by omega) _ 0 (by omega) (by omega)) w
    · rename_i hl
      simp only [Option.some.injEq, Prod.mk.injEq] at h
      obtain ⟨rfl, rfl, rfl⟩ := h
      exact plus_over _ _ _ _ _ _ _ (add64_at _ _ 0 (by omega) (by omega) (by omega) (by omega) _ _ (by rw [Int.add_zero]) (by rw [Int.add_zero])) (add64_at _ _ _ (by omega) (by omega) (by omega) (by omega) _ 1 rfl (by omega)) w
  · exact absurd h (by simp)


/-! ### wide_Wide_Add: function 16 -/
def wide_Wide_Add.f (a0_0 : Int) (a0_1 : Int) (a1 : Int) : Option (Int × Int × Option Int) := (wide_Wide_Plus.f a0_0 a0_1 0 a1).bind fun bt128 => (some (bt128.1, bt128.2.1, bt128.2.2))
set_option maxHeartbeats 8000000 in
set_option maxRecDepth 100000 in
theorem wide_Wide_Add.calls (a0_0 : Int) (a0_1 : Int) (a1 : Int) (r1 : Int) (r2 : Int) (r3 : Option Int) (w : World) (h : wide_Wide_Add.f a0_0 a0_1 a1 = some (r1, r2, r3)) :
    Calls Tryd.prog 16 #[.agg #[.int .u64 a0_0, .int .u64 a0_1], .int .u64 a1] w fun e w' => e = .returned (.tuple #[.agg #[.int .u64 r1, .int .u64 r2], errW r3]) ∧ Below w.heap.size w w' := by
  have hu36 := Tryd.underlying36
  have HB := Aside0.mk (Below.refl w.heap.size w)
  have H : ((wide_Wide_Plus.f a0_0 a0_1 0 a1).bind fun bt128 => (some (bt128.1, bt128.2.1, bt128.2.2))) = some (r1, r2, r3) := h
  clear h
  replace H := Option.bind_eq_some_iff.mp H
  obtain ⟨⟨t128, t129, t130⟩, A30, H⟩ := H
  replace H : (some (t128, t129, t130)) = some (r1, r2, r3) := H
  have A3 := Aside0.mk A30
  clear A30
  simp only [Option.some.injEq, Prod.mk.injEq] at H
  obtain ⟨rfl, rfl, rfl⟩ := H
  go_enter Tryd.func16, Tryd.ntmps16
  go_wp2_with (first | ((with_reducible refine gate_dst (N := 2) rfl ?_); refine box_event ?hg (N := 2) ?hd (cs := #[.int .u64 a0_0, .int .u64 a0_1]) (t := 36) ?hr ?_; (case hd => rfl); (case hg => rfl); (case hr => first | (go_simp; done) | (go_simp; rfl)); intro gb126 hg w4 hbox hb; have n0_ := Aside0.mk (below_step (by repeat (first | (with_reducible first | exact HB.out | apply below_alloc | apply pw_below_drewN | apply below_drew1) | exact HB.out)) hb); have n1_ := Aside0.mk (hbox); have n2_ := Aside0.mk ((by rw [hg]; exact (below_size (by repeat (first | (with_reducible first | exact HB.out | apply below_alloc | apply pw_below_drewN | apply below_drew1) | exact HB.out))) : w.heap.size ≤ gb126)); have n3_ := Aside0.mk ((by rw [hg]; exact (below_size (by repeat (first | (with_reducible first | exact HB.out | apply below_alloc | apply pw_below_drewN | apply below_drew1) | exact HB.out))) : w.heap.size ≤ gb126)); clear HB; have HB := n0_; have BK126 := n1_; have GW126 := n2_; have GE126 := n3_; clear n0_ n1_ n2_ n3_; clear hb hbox hg) | ((with_reducible refine gate_dst (N := 4) rfl ?_); refine box_event ?hg (N := 4) ?hd (cs := #[.int .u64 0, .int .u64 0]) (t := 36) ?hr ?_; (case hd => rfl); (case hg => rfl); (case hr => first | (go_simp; done) | (go_simp; rfl)); intro gb127 hg w5 hbox hb; have n0_ := Aside0.mk (blk_below (g := gb126) (o := .cells #[.int .u64 a0_0, .int .u64 a0_1] 36 (0, 0)) (by (with_reducible repeat (first | refine blk_drewN ?_ _ | refine blk_drew ?_ | refine blk_alloc ?_ _)); exact BK126.out) hb); have n1_ := Aside0.mk (below_step (by repeat (first | (with_reducible first | exact HB.out | apply below_alloc | apply pw_below_drewN | apply below_drew1 | refine below_set ?_ GE126.out) | exact HB.out)) hb); have n2_ := Aside0.mk (hbox); have n3_ := Aside0.mk ((by rw [hg]; exact (below_size (by repeat (first | (with_reducible first | exact HB.out | apply below_alloc | apply pw_below_drewN | apply below_drew1 | refine below_set ?_ GE126.out) | exact HB.out))) : w.heap.size ≤ gb127)); have n4_ := Aside0.mk ((by rw [hg]; exact (below_size (by repeat (first | (with_reducible first | exact HB.out | apply below_alloc | apply pw_below_drewN | apply below_drew1 | refine below_set ?_ GE126.out) | exact HB.out))) : w.heap.size ≤ gb127)); have n5_ := Aside0.mk ((by rw [hg]; exact Nat.ne_of_lt (blk_lt (g := gb126) (o := .cells #[.int .u64 a0_0, .int .u64 a0_1] 36 (0, 0)) (by (with_reducible repeat (first | refine blk_drewN ?_ _ | refine blk_drew ?_ | refine blk_alloc ?_ _)); exact BK126.out)) : gb126 ≠ gb127)); have n6_ := Aside0.mk ((by rw [hg]; exact Nat.ne_of_gt (blk_lt (g := gb126) (o := .cells #[.int .u64 a0_0, .int .u64 a0_1] 36 (0, 0)) (by (with_reducible repeat (first | refine blk_drewN ?_ _ | refine blk_drew ?_ | refine blk_alloc ?_ _)); exact BK126.out)) : gb127 ≠ gb126)); clear BK126; clear HB; have BK126 := n0_; have HB := n1_; have BK127 := n2_; have GW127 := n3_; have GE127 := n4_; have NB126_127 := n5_; have NB127_126 := n6_; clear n0_ n1_ n2_ n3_ n4_ n5_ n6_; clear hb hbox hg; have hnb6 := NB126_127.out; have hnc6 := NB127_126.out; have hcz7_0 : w5.cell? ⟨gb126, 0, none⟩ = some (.int .u64 a0_0) := (blk_cell BK126.out 0).trans rfl; have hcz7_1 : w5.cell? ⟨gb126, 1, none⟩ = some (.int .u64 a0_1) := (blk_cell BK126.out 1).trans rfl; have hfz7_0 := blk_frozen BK126.out 0; have hfz7_1 := blk_frozen BK126.out 1) | ((with_reducible refine gate_callee (f := 15) rfl ?_); refine goesL_ (some 9) rfl rfl Tryd.func15 (by kernel_rfl) rfl #[.agg #[.int .u64 a0_0, .int .u64 a0_1], .agg #[.int .u64 0, .int .u64 a1]] rfl (by (try simp only [List.map_toArray, List.map_cons, List.map_nil]); first | done | rfl | (simp only [List.length_drop, List.length_take]; rfl)) ?_; (with_reducible refine (wide_Wide_Plus.calls a0_0 a0_1 0 a1 t128 t129 t130 _ A3.out).mono ?_); rintro e w8 ⟨rfl, hb⟩; refine ⟨_, rfl, ?_⟩; have n0_ := Aside0.mk (blk_below (g := gb126) (o := .cells #[.int .u64 a0_0, .int .u64 a0_1] 36 (0, 0)) (by (with_reducible repeat (first | refine blk_drewN ?_ _ | refine blk_drew ?_ | refine blk_alloc ?_ _)); exact BK126.out) hb); have n1_ := Aside0.mk (blk_below (g := gb127) (o := .cells #[.int .u64 0, .int .u64 0] 36 (0, 0)) (by (with_reducible repeat (first | refine blk_drewN ?_ _ | refine blk_drew ?_ | refine blk_alloc ?_ _)); exact BK127.out) hb); have n2_ := Aside0.mk (below_step (by repeat (first | (with_reducible first | exact HB.out | apply below_alloc | apply pw_below_drewN | apply below_drew1 | refine below_set ?_ GE126.out | refine below_set ?_ GE127.out) | exact HB.out)) hb); clear BK126; clear BK127; clear HB; have BK126 := n0_; have BK127 := n1_; have HB := n2_; clear n0_ n1_ n2_; (try clear hb); (try clear hb2); (try clear hk); (try clear hi); (try simp only [errW_none, errW_some]); have hcz9_0 : w8.cell? ⟨gb127, 0, none⟩ = some (.int .u64 0) := (blk_cell BK127.out 0).trans rfl; have hcz9_1 : w8.cell? ⟨gb127, 1, none⟩ = some (.int .u64 0) := (blk_cell BK127.out 1).trans rfl; have hfz9_0 := blk_frozen BK127.out 0; have hfz9_1 := blk_frozen BK127.out 1))
  refine bodyPost_ret (results_ct rfl _ _ gb127 36 #[.int .u64 t128, .int .u64 t129] (0, 0) _ rfl (by (with_reducible repeat (first | refine blk_drewN ?_ _ | refine blk_drew ?_ | refine blk_alloc ?_ _)); refine blk_put (cs := #[.int .u64 t128, .int .u64 0]) ?_ 1 _ rfl; (with_reducible repeat (first | refine blk_drewN ?_ _ | refine blk_drew ?_ | refine blk_alloc ?_ _)); refine blk_put (cs := #[.int .u64 0, .int .u64 0]) ?_ 0 _ rfl; (with_reducible repeat (first | refine blk_drewN ?_ _ | refine blk_drew ?_ | refine blk_alloc ?_ _)); exact BK127.out) Tryd.underlying36 rfl (by kernel_rfl)) rfl ?_
  exact ⟨by first | rfl | (simp [errW_none, errW_some] <;> rfl) | (simp [*, errW_none, errW_some] <;> rfl), by repeat (first | (with_reducible first | exact HB.out | apply below_alloc | apply pw_below_drewN | apply below_drew1 | refine below_set ?_ GE126.out | refine below_set ?_ GE127.out) | exact HB.out)⟩

/-! ### arrearsref03_Of: function 18 -/
def arrearsref03_Of.f (a0 : Int) (a1 : Int) : Option (Int × Int × Int × Int × Int × Int × Int × Int) :=
  if (0 ≤ a0 ∧ a0 ≤ 18446744073709551615) ∧ (0 ≤ a1 ∧ a1 ≤ 18446744073709551615) then some (a1 % 65536, a1 / 65536 % 65536, a1 / 65536 / 65536 % 65536, a1 / 65536 / 65536 / 65536 % 65536, a0 % 65536, a0 / 65536 % 65536, a0 / 65536 / 65536 % 65536, a0 / 65536 / 65536 / 65536 % 65536) else none
set_option maxHeartbeats 4000000 in
theorem of_ok (a0 a1 : Int) (h0 : 0 ≤ a0 ∧ a0 ≤ 18446744073709551615) (h1 : 0 ≤ a1 ∧ a1 ≤ 18446744073709551615) (w : World) :
    Calls Tryd.prog 18 #[.int .u64 a0, .int .u64 a1] w fun e w' => e = .returned (.agg #[.int .u32 (a1 % 65536), .int .u32 (a1 / 65536 % 65536), .int .u32 (a1 / 65536 / 65536 % 65536), .int .u32 (a1 / 65536 / 65536 / 65536 % 65536), .int .u32 (a0 % 65536), .int .u32 (a0 / 65536 % 65536), .int .u32 (a0 / 65536 / 65536 % 65536), .int .u32 (a0 / 65536 / 65536 / 65536 % 65536)]) ∧ Below w.heap.size w w' := by
  go_enter Tryd.func18, Tryd.ntmps18
  go_wp2_with (first | ((with_reducible refine gate_dst (N := 4) rfl ?_); (try (refine gate_guard (by rfl) ?_; dsimp only)); refine box_event ?hg (N := 4) ?hd (cs := #[.int .u32 0, .int .u32 0, .int .u32 0, .int .u32 0, .int .u32 0, .int .u32 0, .int .u32 0, .int .u32 0]) (t := 46) ?hr ?_; (case hd => rfl); (case hg => rfl); (case hr => first | (go_simp; done) | (go_simp; rfl)); intro gb4 hg w4 hbox hb; have BK4 := Aside0.mk hbox; have GB4 := Aside0.mk hb; have HG4 := Aside0.mk (show w.heap.size ≤ gb4 from Nat.le_of_eq hg.symm); clear hbox hb hg) | ((with_reducible refine gate_dst (N := 5) rfl ?_); (try (refine gate_guard (by rfl) ?_; dsimp only)); refine box_event ?hg (N := 5) ?hd (cs := #[.int .u32 0, .int .u32 0, .int .u32 0, .int .u32 0, .int .u32 0, .int .u32 0, .int .u32 0, .int .u32 0]) (t := 46) ?hr ?_; (case hd => rfl); (case hg => rfl); (case hr => first | (go_simp; done) | (go_simp; rfl)); intro gb5 hg w5 hbox hb; have n0_ := Aside0.mk (blk_below BK4.out hb); have n1_ := Aside0.mk (below_step GB4.out hb); have NB := Aside0.mk (by rw [hg]; exact Nat.ne_of_lt (blk_lt BK4.out) : gb4 ≠ gb5); have HG5 := Aside0.mk (Nat.le_trans (below_size GB4.out) (Nat.le_of_eq hg.symm) : w.heap.size ≤ gb5); have BK5 := Aside0.mk hbox; clear BK4 GB4; have BK4 := n0_; have HB := n1_; clear n0_ n1_ hbox hb hg))
  have e5 := BK5.out
  have hc0 : w5.cell? ⟨gb5, 0, none⟩ = some (.int .u32 0) := (blk_cell e5 0).trans rfl
  have hf0 := blk_frozen e5 0
  have hc1 : w5.cell? ⟨gb5, 1, none⟩ = some (.int .u32 0) := (blk_cell e5 1).trans rfl
  have hf1 := blk_frozen e5 1
  have hc2 : w5.cell? ⟨gb5, 2, none⟩ = some (.int .u32 0) := (blk_cell e5 2).trans rfl
  have hf2 := blk_frozen e5 2
  have hc3 : w5.cell? ⟨gb5, 3, none⟩ = some (.int .u32 0) := (blk_cell e5 3).trans rfl
  have hf3 := blk_frozen e5 3
  have hc4 : w5.cell? ⟨gb5, 4, none⟩ = some (.int .u32 0) := (blk_cell e5 4).trans rfl
  have hf4 := blk_frozen e5 4
  have hc5 : w5.cell? ⟨gb5, 5, none⟩ = some (.int .u32 0) := (blk_cell e5 5).trans rfl
  have hf5 := blk_frozen e5 5
  have hc6 : w5.cell? ⟨gb5, 6, none⟩ = some (.int .u32 0) := (blk_cell e5 6).trans rfl
  have hf6 := blk_frozen e5 6
  have hc7 : w5.cell? ⟨gb5, 7, none⟩ = some (.int .u32 0) := (blk_cell e5 7).trans rfl
  have hf7 := blk_frozen e5 7
  have hd0 : w5.cell? ⟨gb4, 0, none⟩ = some (.int .u32 0) := (blk_cell BK4.out 0).trans rfl
  have hg0 := blk_frozen BK4.out 0
  have hd1 : w5.cell? ⟨gb4, 1, none⟩ = some (.int .u32 0) := (blk_cell BK4.out 1).trans rfl
  have hg1 := blk_frozen BK4.out 1
  have hd2 : w5.cell? ⟨gb4, 2, none⟩ = some (.int .u32 0) := (blk_cell BK4.out 2).trans rfl
  have hg2 := blk_frozen BK4.out 2
  have hd3 : w5.cell? ⟨gb4, 3, none⟩ = some (.int .u32 0) := (blk_cell BK4.out 3).trans rfl
  have hg3 := blk_frozen BK4.out 3
  have hd4 : w5.cell? ⟨gb4, 4, none⟩ = some (.int .u32 0) := (blk_cell BK4.out 4).trans rfl
  have hg4 := blk_frozen BK4.out 4
  have hd5 : w5.cell? ⟨gb4, 5, none⟩ = some (.int .u32 0) := (blk_cell BK4.out 5).trans rfl
  have hg5 := blk_frozen BK4.out 5
  have hd6 : w5.cell? ⟨gb4, 6, none⟩ = some (.int .u32 0) := (blk_cell BK4.out 6).trans rfl
  have hg6 := blk_frozen BK4.out 6
  have hd7 : w5.cell? ⟨gb4, 7, none⟩ = some (.int .u32 0) := (blk_cell BK4.out 7).trans rfl
  have hg7 := blk_frozen BK4.out 7
  have nb := NB.out
  have nb' := Ne.symm NB.out
  clear e5
  refine wp_loop_rounds 5 ?_
  rw [rounds_succ]
  go_wp2
  rw [rounds_succ]
  go_wp2
  rw [rounds_succ]
  go_wp2
  rw [rounds_succ]
  go_wp2
  rw [rounds_succ]
  go_wp2
  refine bodyPost_ret (v := .agg #[.int .u32 (a1 % 65536), .int .u32 (a1 / 65536 % 65536), .int .u32 (a1 / 65536 / 65536 % 65536), .int .u32 (a1 / 65536 / 65536 / 65536 % 65536), .int .u32 (a0 % 65536), .int .u32 (a0 / 65536 % 65536), .int .u32 (a0 / 65536 / 65536 % 65536), .int .u32 (a0 / 65536 / 65536 / 65536 % 65536)]) (results_single (r := .cell 4 46) rfl (.cell gb4 46 #[.int .u32 (a1 % 65536), .int .u32 (a1 / 65536 % 65536), .int .u32 (a1 / 65536 / 65536 % 65536), .int .u32 (a1 / 65536 / 65536 / 65536 % 65536), .int .u32 (a0 % 65536), .int .u32 (a0 / 65536 % 65536), .int .u32 (a0 / 65536 / 65536 % 65536), .int .u32 (a0 / 65536 / 65536 / 65536 % 65536)] (0, 0) _ rfl ?hg Tryd.underlying46 rfl (by kernel_rfl) .nil)) rfl ⟨rfl, ?_⟩
  case hg =>
    refine blk_put (cs := #[.int .u32 (a1 % 65536), .int .u32 (a1 / 65536 % 65536), .int .u32 (a1 / 65536 / 65536 % 65536), .int .u32 (a1 / 65536 / 65536 / 65536 % 65536), .int .u32 (a0 % 65536), .int .u32 (a0 / 65536 % 65536), .int .u32 (a0 / 65536 / 65536 % 65536), .int .u32 0]) ?_ 7 _ rfl
    refine blk_put (cs := #[.int .u32 (a1 % 65536), .int .u32 (a1 / 65536 % 65536), .int .u32 (a1 / 65536 / 65536 % 65536), .int .u32 (a1 / 65536 / 65536 / 65536 % 65536), .int .u32 (a0 % 65536), .int .u32 (a0 / 65536 % 65536), .int .u32 0, .int .u32 0]) ?_ 6 _ rfl
    refine blk_put (cs := #[.int .u32 (a1 % 65536), .int .u32 (a1 / 65536 % 65536), .int .u32 (a1 / 65536 / 65536 % 65536), .int .u32 (a1 / 65536 / 65536 / 65536 % 65536), .int .u32 (a0 % 65536), .int .u32 0, .int .u32 0, .int .u32 0]) ?_ 5 _ rfl
    refine blk_put (cs := #[.int .u32 (a1 % 65536), .int .u32 (a1 / 65536 % 65536), .int .u32 (a1 / 65536 / 65536 % 65536), .int .u32 (a1 / 65536 / 65536 / 65536 % 65536), .int .u32 0, .int .u32 0, .int .u32 0, .int .u32 0]) ?_ 4 _ rfl
    refine blk_put (cs := #[.int .u32 (a1 % 65536), .int .u32 (a1 / 65536 % 65536), .int .u32 (a1 / 65536 / 65536 % 65536), .int .u32 0, .int .u32 0, .int .u32 0, .int .u32 0, .int .u32 0]) ?_ 3 _ rfl
    refine blk_put (cs := #[.int .u32 (a1 % 65536), .int .u32 (a1 / 65536 % 65536), .int .u32 0, .int .u32 0, .int .u32 0, .int .u32 0, .int .u32 0, .int .u32 0]) ?_ 2 _ rfl
    refine blk_put (cs := #[.int .u32 (a1 % 65536), .int .u32 0, .int .u32 0, .int .u32 0, .int .u32 0, .int .u32 0, .int .u32 0, .int .u32 0]) ?_ 1 _ rfl
    refine blk_put (cs := #[.int .u32 0, .int .u32 0, .int .u32 0, .int .u32 0, .int .u32 0, .int .u32 0, .int .u32 0, .int .u32 0]) ?_ 0 _ rfl
    refine blk_far ?_ NB.out _
    refine blk_far ?_ NB.out _
    refine blk_far ?_ NB.out _
    refine blk_far ?_ NB.out _
    refine blk_far ?_ NB.out _
    refine blk_far ?_ NB.out _
    refine blk_far ?_ NB.out _
    refine blk_far ?_ NB.out _
    exact BK4.out
  refine below_set ?_ HG4.out
  refine below_set ?_ HG4.out
  refine below_set ?_ HG4.out
  refine below_set ?_ HG4.out
  refine below_set ?_ HG4.out
  refine below_set ?_ HG4.out
  refine below_set ?_ HG4.out
  refine below_set ?_ HG4.out
  refine below_set ?_ HG5.out
  refine below_set ?_ HG5.out
  refine below_set ?_ HG5.out
  refine below_set ?_ HG5.out
  refine below_set ?_ HG5.out
  refine below_set ?_ HG5.out
  refine below_set ?_ HG5.out
  refine below_set ?_ HG5.out
  exact HB.out
theorem arrearsref03_Of.calls (a0 : Int) (a1 : Int) (r1 : Int) (r2 : Int) (r3 : Int) (r4 : Int) (r5 : Int) (r6 : Int) (r7 : Int) (r8 : Int) (w : World) (h : arrearsref03_Of.f a0 a1 = some (r1, r2, r3, r4, r5, r6, r7, r8)) :
    Calls Tryd.prog 18 #[.int .u64 a0, .int .u64 a1] w fun e w' => e = .returned (.agg #[.int .u32 r1, .int .u32 r2, .int .u32 r3, .int .u32 r4, .int .u32 r5, .int .u32 r6, .int .u32 r7, .int .u32 r8]) ∧ Below w.heap.size w w' := by
  unfold arrearsref03_Of.f at h
  split at h
  · rename_i hb
    simp only [Option.some.injEq, Prod.mk.injEq] at h
    obtain ⟨rfl, rfl, rfl, rfl, rfl, rfl, rfl, rfl⟩ := h
    exact of_ok _ _ hb.1 hb.2 w
  · exact absurd h (by simp)


/-! ### arrearsref03_Add: function 19 -/
def arrearsref03_Add.f (a0_0 : Int) (a0_1 : Int) (a0_2 : Int) (a0_3 : Int) (a0_4 : Int) (a0_5 : Int) (a0_6 : Int) (a0_7 : Int) (a1_0 : Int) (a1_1 : Int) (a1_2 : Int) (a1_3 : Int) (a1_4 : Int) (a1_5 : Int) (a1_6 : Int) (a1_7 : Int) : Option (Int × Int × Int × Int × Int × Int × Int × Int × Bool) :=
  if (0 ≤ a0_0 ∧ a0_0 ≤ 65535) ∧ (0 ≤ a0_1 ∧ a0_1 ≤ 65535) ∧ (0 ≤ a0_2 ∧ a0_2 ≤ 65535) ∧ (0 ≤ a0_3 ∧ a0_3 ≤ 65535) ∧ (0 ≤ a0_4 ∧ a0_4 ≤ 65535) ∧ (0 ≤ a0_5 ∧ a0_5 ≤ 65535) ∧ (0 ≤ a0_6 ∧ a0_6 ≤ 65535) ∧ (0 ≤ a0_7 ∧ a0_7 ≤ 65535) ∧ (0 ≤ a1_0 ∧ a1_0 ≤ 65535) ∧ (0 ≤ a1_1 ∧ a1_1 ≤ 65535) ∧ (0 ≤ a1_2 ∧ a1_2 ≤ 65535) ∧ (0 ≤ a1_3 ∧ a1_3 ≤ 65535) ∧ (0 ≤ a1_4 ∧ a1_4 ≤ 65535) ∧ (0 ≤ a1_5 ∧ a1_5 ≤ 65535) ∧ (0 ≤ a1_6 ∧ a1_6 ≤ 65535) ∧ (0 ≤ a1_7 ∧ a1_7 ≤ 65535) then some ((a0_0 + a1_0) % 65536, (a0_1 + a1_1 + ((a0_0 + a1_0) / 65536)) % 65536, (a0_2 + a1_2 + ((a0_1 + a1_1 + ((a0_0 + a1_0) / 65536)) / 65536)) % 65536, (a0_3 + a1_3 + ((a0_2 + a1_2 + ((a0_1 + a1_1 + ((a0_0 + a1_0) / 65536)) / 65536)) / 65536)) % 65536, (a0_4 + a1_4 + ((a0_3 + a1_3 + ((a0_2 + a1_2 + ((a0_1 + a1_1 + ((a0_0 + a1_0) / 65536)) / 65536)) / 65536)) / 65536)) % 65536, (a0_5 + a1_5 + ((a0_4 + a1_4 + ((a0_3 + a1_3 + ((a0_2 + a1_2 + ((a0_1 + a1_1 + ((a0_0 + a1_0) / 65536)) / 65536)) / 65536)) / 65536)) / 65536)) % 65536, (a0_6 + a1_6 + ((a0_5 + a1_5 + ((a0_4 + a1_4 + ((a0_3 + a1_3 + ((a0_2 + a1_2 + ((a0_1 + a1_1 + ((a0_0 + a1_0) / 65536)) / 65536)) / 65536)) / 65536)) / 65536)) / 65536)) % 65536, (a0_7 + a1_7 + ((a0_6 + a1_6 + ((a0_5 + a1_5 + ((a0_4 + a1_4 + ((a0_3 + a1_3 + ((a0_2 + a1_2 + ((a0_1 + a1_1 + ((a0_0 + a1_0) / 65536)) / 65536)) / 65536)) / 65536)) / 65536)) / 65536)) / 65536)) % 65536, ((a0_7 + a1_7 + ((a0_6 + a1_6 + ((a0_5 + a1_5 + ((a0_4 + a1_4 + ((a0_3 + a1_3 + ((a0_2 + a1_2 + ((a0_1 + a1_1 + ((a0_0 + a1_0) / 65536)) / 65536)) / 65536)) / 65536)) / 65536)) / 65536)) / 65536)) / 65536) == 0) else none
theorem carry_bd {x y o : Int} (hx : 0 ≤ x ∧ x ≤ 65535) (hy : 0 ≤ y ∧ y ≤ 65535) (ho : 0 ≤ o ∧ o ≤ 1) : 0 ≤ (x + y + o) / 65536 ∧ (x + y + o) / 65536 ≤ 1 := by omega
theorem carry_bd0 {x y : Int} (hx : 0 ≤ x ∧ x ≤ 65535) (hy : 0 ≤ y ∧ y ≤ 65535) : 0 ≤ (x + y) / 65536 ∧ (x + y) / 65536 ≤ 1 := by omega
set_option maxHeartbeats 8000000 in
theorem add_ok (x0 x1 x2 x3 x4 x5 x6 x7 y0 y1 y2 y3 y4 y5 y6 y7 o1 o2 o3 o4 o5 o6 o7 o8 : Int) (hx0 : 0 ≤ x0 ∧ x0 ≤ 65535) (hy0 : 0 ≤ y0 ∧ y0 ≤ 65535) (hx1 : 0 ≤ x1 ∧ x1 ≤ 65535) (hy1 : 0 ≤ y1 ∧ y1 ≤ 65535) (hx2 : 0 ≤ x2 ∧ x2 ≤ 65535) (hy2 : 0 ≤ y2 ∧ y2 ≤ 65535) (hx3 : 0 ≤ x3 ∧ x3 ≤ 65535) (hy3 : 0 ≤ y3 ∧ y3 ≤ 65535) (hx4 : 0 ≤ x4 ∧ x4 ≤ 65535) (hy4 : 0 ≤ y4 ∧ y4 ≤ 65535) (hx5 : 0 ≤ x5 ∧ x5 ≤ 65535) (hy5 : 0 ≤ y5 ∧ y5 ≤ 65535) (hx6 : 0 ≤ x6 ∧ x6 ≤ 65535) (hy6 : 0 ≤ y6 ∧ y6 ≤ 65535) (hx7 : 0 ≤ x7 ∧ x7 ≤ 65535) (hy7 : 0 ≤ y7 ∧ y7 ≤ 65535) (ho1 : 0 ≤ o1 ∧ o1 ≤ 1) (e1 : (x0 + y0) / 65536 = o1) (ho2 : 0 ≤ o2 ∧ o2 ≤ 1) (e2 : (x1 + y1 + o1) / 65536 = o2) (ho3 : 0 ≤ o3 ∧ o3 ≤ 1) (e3 : (x2 + y2 + o2) / 65536 = o3) (ho4 : 0 ≤ o4 ∧ o4 ≤ 1) (e4 : (x3 + y3 + o3) / 65536 = o4) (ho5 : 0 ≤ o5 ∧ o5 ≤ 1) (e5 : (x4 + y4 + o4) / 65536 = o5) (ho6 : 0 ≤ o6 ∧ o6 ≤ 1) (e6 : (x5 + y5 + o5) / 65536 = o6) (ho7 : 0 ≤ o7 ∧ o7 ≤ 1) (e7 : (x6 + y6 + o6) / 65536 = o7) (ho8 : 0 ≤ o8 ∧ o8 ≤ 1) (e8 : (x7 + y7 + o7) / 65536 = o8) (w : World) :
    Calls Tryd.prog 19 #[.agg #[.int .u32 x0, .int .u32 x1, .int .u32 x2, .int .u32 x3, .int .u32 x4, .int .u32 x5, .int .u32 x6, .int .u32 x7], .agg #[.int .u32 y0, .int .u32 y1, .int .u32 y2, .int .u32 y3, .int .u32 y4, .int .u32 y5, .int .u32 y6, .int .u32 y7]] w fun e w' => e = .returned (.tuple #[.agg #[.int .u32 ((x0 + y0) % 65536), .int .u32 ((x1 + y1 + o1) % 65536), .int .u32 ((x2 + y2 + o2) % 65536), .int .u32 ((x3 + y3 + o3) % 65536), .int .u32 ((x4 + y4 + o4) % 65536), .int .u32 ((x5 + y5 + o5) % 65536), .int .u32 ((x6 + y6 + o6) % 65536), .int .u32 ((x7 + y7 + o7) % 65536)], .bool (o8 == 0)]) ∧ Below w.heap.size w w' := by
  go_enter Tryd.func19, Tryd.ntmps19
  go_wp2_with (first | ((with_reducible refine gate_dst (N := 2) rfl ?_); (try (refine gate_guard (by rfl) ?_; dsimp only)); refine box_event ?hg (N := 2) ?hd (cs := #[.int .u32 x0, .int .u32 x1, .int .u32 x2, .int .u32 x3, .int .u32 x4, .int .u32 x5, .int .u32 x6, .int .u32 x7]) (t := 46) ?hr ?_; (case hd => rfl); (case hg => rfl); (case hr => first | (go_simp; done) | (go_simp; rfl)); intro gb2 hg w2 hbox hb; have BK2 := Aside0.mk hbox; have HB := Aside0.mk hb; have GE2 := Aside0.mk (Nat.le_of_eq hg.symm : w.heap.size ≤ gb2); clear hbox hb hg) | ((with_reducible refine gate_dst (N := 3) rfl ?_); (try (refine gate_guard (by rfl) ?_; dsimp only)); refine box_event ?hg (N := 3) ?hd (cs := #[.int .u32 y0, .int .u32 y1, .int .u32 y2, .int .u32 y3, .int .u32 y4, .int .u32 y5, .int .u32 y6, .int .u32 y7]) (t := 46) ?hr ?_; (case hd => rfl); (case hg => rfl); (case hr => first | (go_simp; done) | (go_simp; rfl)); intro gb3 hg w3 hbox hb; have n2_ := Aside0.mk (blk_below BK2.out hb); have NB2_3 := Aside0.mk (by rw [hg]; exact Nat.ne_of_lt (blk_lt BK2.out) : gb2 ≠ gb3); have m_ := Aside0.mk (below_step HB.out hb); have GE3 := Aside0.mk (Nat.le_trans (below_size HB.out) (Nat.le_of_eq hg.symm) : w.heap.size ≤ gb3); clear HB; have HB := m_; clear m_; clear BK2; have BK2 := n2_; clear n2_; have BK3 := Aside0.mk hbox; clear hbox hb hg) | ((with_reducible refine gate_dst (N := 4) rfl ?_); (try (refine gate_guard (by rfl) ?_; dsimp only)); refine box_event ?hg (N := 4) ?hd (cs := #[.int .u32 0, .int .u32 0, .int .u32 0, .int .u32 0, .int .u32 0, .int .u32 0, .int .u32 0, .int .u32 0]) (t := 46) ?hr ?_; (case hd => rfl); (case hg => rfl); (case hr => first | (go_simp; done) | (go_simp; rfl)); intro gb4 hg w4 hbox hb; have n2_ := Aside0.mk (blk_below BK2.out hb); have NB2_4 := Aside0.mk (by rw [hg]; exact Nat.ne_of_lt (blk_lt BK2.out) : gb2 ≠ gb4); have n3_ := Aside0.mk (blk_below BK3.out hb); have NB3_4 := Aside0.mk (by rw [hg]; exact Nat.ne_of_lt (blk_lt BK3.out) : gb3 ≠ gb4); have m_ := Aside0.mk (below_step HB.out hb); have GE4 := Aside0.mk (Nat.le_trans (below_size HB.out) (Nat.le_of_eq hg.symm) : w.heap.size ≤ gb4); clear HB; have HB := m_; clear m_; clear BK2; have BK2 := n2_; clear n2_; clear BK3; have BK3 := n3_; clear n3_; have BK4 := Aside0.mk hbox; clear hbox hb hg) | ((with_reducible refine gate_dst (N := 6) rfl ?_); (try (refine gate_guard (by rfl) ?_; dsimp only)); refine box_event ?hg (N := 6) ?hd (cs := #[.int .u32 0, .int .u32 0, .int .u32 0, .int .u32 0, .int .u32 0, .int .u32 0, .int .u32 0, .int .u32 0]) (t := 46) ?hr ?_; (case hd => rfl); (case hg => rfl); (case hr => first | (go_simp; done) | (go_simp; rfl)); intro gb6 hg w6 hbox hb; have n2_ := Aside0.mk (blk_below BK2.out hb); have NB2_6 := Aside0.mk (by rw [hg]; exact Nat.ne_of_lt (blk_lt BK2.out) : gb2 ≠ gb6); have n3_ := Aside0.mk (blk_below BK3.out hb); have NB3_6 := Aside0.mk (by rw [hg]; exact Nat.ne_of_lt (blk_lt BK3.out) : gb3 ≠ gb6); have n4_ := Aside0.mk (blk_below BK4.out hb); have NB4_6 := Aside0.mk (by rw [hg]; exact Nat.ne_of_lt (blk_lt BK4.out) : gb4 ≠ gb6); have m_ := Aside0.mk (below_step HB.out hb); have GE6 := Aside0.mk (Nat.le_trans (below_size HB.out) (Nat.le_of_eq hg.symm) : w.heap.size ≤ gb6); clear HB; have HB := m_; clear m_; clear BK2; have BK2 := n2_; clear n2_; clear BK3; have BK3 := n3_; clear n3_; clear BK4; have BK4 := n4_; clear n4_; have BK6 := Aside0.mk hbox; clear hbox hb hg))
  have hc2_0 : w6.cell? ⟨gb2, 0, none⟩ = some (.int .u32 x0) := (blk_cell BK2.out 0).trans rfl
  have hf2_0 := blk_frozen BK2.out 0
  have hc2_1 : w6.cell? ⟨gb2, 1, none⟩ = some (.int .u32 x1) := (blk_cell BK2.out 1).trans rfl
  have hf2_1 := blk_frozen BK2.out 1
  have hc2_2 : w6.cell? ⟨gb2, 2, none⟩ = some (.int .u32 x2) := (blk_cell BK2.out 2).trans rfl
  have hf2_2 := blk_frozen BK2.out 2
  have hc2_3 : w6.cell? ⟨gb2, 3, none⟩ = some (.int .u32 x3) := (blk_cell BK2.out 3).trans rfl
  have hf2_3 := blk_frozen BK2.out 3
  have hc2_4 : w6.cell? ⟨gb2, 4, none⟩ = some (.int .u32 x4) := (blk_cell BK2.out 4).trans rfl
  have hf2_4 := blk_frozen BK2.out 4
  have hc2_5 : w6.cell? ⟨gb2, 5, none⟩ = some (.int .u32 x5) := (blk_cell BK2.out 5).trans rfl
  have hf2_5 := blk_frozen BK2.out 5
  have hc2_6 : w6.cell? ⟨gb2, 6, none⟩ = some (.int .u32 x6) := (blk_cell BK2.out 6).trans rfl
  have hf2_6 := blk_frozen BK2.out 6
  have hc2_7 : w6.cell? ⟨gb2, 7, none⟩ = some (.int .u32 x7) := (blk_cell BK2.out 7).trans rfl
  have hf2_7 := blk_frozen BK2.out 7
  have hc3_0 : w6.cell? ⟨gb3, 0, none⟩ = some (.int .u32 y0) := (blk_cell BK3.out 0).trans rfl
  have hf3_0 := blk_frozen BK3.out 0
  have hc3_1 : w6.cell? ⟨gb3, 1, none⟩ = some (.int .u32 y1) := (blk_cell BK3.out 1).trans rfl
  have hf3_1 := blk_frozen BK3.out 1
  have hc3_2 : w6.cell? ⟨gb3, 2, none⟩ = some (.int .u32 y2) := (blk_cell BK3.out 2).trans rfl
  have hf3_2 := blk_frozen BK3.out 2
  have hc3_3 : w6.cell? ⟨gb3, 3, none⟩ = some (.int .u32 y3) := (blk_cell BK3.out 3).trans rfl
  have hf3_3 := blk_frozen BK3.out 3
  have hc3_4 : w6.cell? ⟨gb3, 4, none⟩ = some (.int .u32 y4) := (blk_cell BK3.out 4).trans rfl
  have hf3_4 := blk_frozen BK3.out 4
  have hc3_5 : w6.cell? ⟨gb3, 5, none⟩ = some (.int .u32 y5) := (blk_cell BK3.out 5).trans rfl
  have hf3_5 := blk_frozen BK3.out 5
  have hc3_6 : w6.cell? ⟨gb3, 6, none⟩ = some (.int .u32 y6) := (blk_cell BK3.out 6).trans rfl
  have hf3_6 := blk_frozen BK3.out 6
  have hc3_7 : w6.cell? ⟨gb3, 7, none⟩ = some (.int .u32 y7) := (blk_cell BK3.out 7).trans rfl
  have hf3_7 := blk_frozen BK3.out 7
  have hc4_0 : w6.cell? ⟨gb4, 0, none⟩ = some (.int .u32 0) := (blk_cell BK4.out 0).trans rfl
  have hf4_0 := blk_frozen BK4.out 0
  have hc4_1 : w6.cell? ⟨gb4, 1, none⟩ = some (.int .u32 0) := (blk_cell BK4.out 1).trans rfl
  have hf4_1 := blk_frozen BK4.out 1
  have hc4_2 : w6.cell? ⟨gb4, 2, none⟩ = some (.int .u32 0) := (blk_cell BK4.out 2).trans rfl
  have hf4_2 := blk_frozen BK4.out 2
  have hc4_3 : w6.cell? ⟨gb4, 3, none⟩ = some (.int .u32 0) := (blk_cell BK4.out 3).trans rfl
  have hf4_3 := blk_frozen BK4.out 3
  have hc4_4 : w6.cell? ⟨gb4, 4, none⟩ = some (.int .u32 0) := (blk_cell BK4.out 4).trans rfl
  have hf4_4 := blk_frozen BK4.out 4
  have hc4_5 : w6.cell? ⟨gb4, 5, none⟩ = some (.int .u32 0) := (blk_cell BK4.out 5).trans rfl
  have hf4_5 := blk_frozen BK4.out 5
  have hc4_6 : w6.cell? ⟨gb4, 6, none⟩ = some (.int .u32 0) := (blk_cell BK4.out 6).trans rfl
  have hf4_6 := blk_frozen BK4.out 6
  have hc4_7 : w6.cell? ⟨gb4, 7, none⟩ = some (.int .u32 0) := (blk_cell BK4.out 7).trans rfl
  have hf4_7 := blk_frozen BK4.out 7
  have hc6_0 : w6.cell? ⟨gb6, 0, none⟩ = some (.int .u32 0) := (blk_cell BK6.out 0).trans rfl
  have hf6_0 := blk_frozen BK6.out 0
  have hc6_1 : w6.cell? ⟨gb6, 1, none⟩ = some (.int .u32 0) := (blk_cell BK6.out 1).trans rfl
  have hf6_1 := blk_frozen BK6.out 1
  have hc6_2 : w6.cell? ⟨gb6, 2, none⟩ = some (.int .u32 0) := (blk_cell BK6.out 2).trans rfl
  have hf6_2 := blk_frozen BK6.out 2
  have hc6_3 : w6.cell? ⟨gb6, 3, none⟩ = some (.int .u32 0) := (blk_cell BK6.out 3).trans rfl
  have hf6_3 := blk_frozen BK6.out 3
  have hc6_4 : w6.cell? ⟨gb6, 4, none⟩ = some (.int .u32 0) := (blk_cell BK6.out 4).trans rfl
  have hf6_4 := blk_frozen BK6.out 4
  have hc6_5 : w6.cell? ⟨gb6, 5, none⟩ = some (.int .u32 0) := (blk_cell BK6.out 5).trans rfl
  have hf6_5 := blk_frozen BK6.out 5
  have hc6_6 : w6.cell? ⟨gb6, 6, none⟩ = some (.int .u32 0) := (blk_cell BK6.out 6).trans rfl
  have hf6_6 := blk_frozen BK6.out 6
  have hc6_7 : w6.cell? ⟨gb6, 7, none⟩ = some (.int .u32 0) := (blk_cell BK6.out 7).trans rfl
  have hf6_7 := blk_frozen BK6.out 7
  have nb2_3 := NB2_3.out
  have nc2_3 := Ne.symm NB2_3.out
  have nb2_4 := NB2_4.out
  have nc2_4 := Ne.symm NB2_4.out
  have nb3_4 := NB3_4.out
  have nc3_4 := Ne.symm NB3_4.out
  have nb2_6 := NB2_6.out
  have nc2_6 := Ne.symm NB2_6.out
  have nb3_6 := NB3_6.out
  have nc3_6 := Ne.symm NB3_6.out
  have nb4_6 := NB4_6.out
  have nc4_6 := Ne.symm NB4_6.out
  refine wp_loop_rounds 9 ?_
  rw [rounds_succ]
  go_wp2
  repeat (go_quiet (fail); try go_wp2)
  simp only [e1]
  rw [rounds_succ]
  go_wp2
  repeat (go_quiet (fail); try go_wp2)
  simp only [e2]
  rw [rounds_succ]
  go_wp2
  repeat (go_quiet (fail); try go_wp2)
  simp only [e3]
  rw [rounds_succ]
  go_wp2
  repeat (go_quiet (fail); try go_wp2)
  simp only [e4]
  rw [rounds_succ]
  go_wp2
  repeat (go_quiet (fail); try go_wp2)
  simp only [e5]
  rw [rounds_succ]
  go_wp2
  repeat (go_quiet (fail); try go_wp2)
  simp only [e6]
  rw [rounds_succ]
  go_wp2
  repeat (go_quiet (fail); try go_wp2)
  simp only [e7]
  rw [rounds_succ]
  go_wp2
  repeat (go_quiet (fail); try go_wp2)
  simp only [e8]
  rw [rounds_succ]
  go_wp2
  refine bodyPost_ret (results_ct (p := 4) (u := 5) (ty := 46) rfl _ _ gb4 46 #[.int .u32 ((x0 + y0) % 65536), .int .u32 ((x1 + y1 + o1) % 65536), .int .u32 ((x2 + y2 + o2) % 65536), .int .u32 ((x3 + y3 + o3) % 65536), .int .u32 ((x4 + y4 + o4) % 65536), .int .u32 ((x5 + y5 + o5) % 65536), .int .u32 ((x6 + y6 + o6) % 65536), .int .u32 ((x7 + y7 + o7) % 65536)] (0, 0) _ rfl ?hg Tryd.underlying46 rfl (by kernel_rfl)) rfl ⟨rfl, ?_⟩
  case hg =>
    refine blk_put (cs := #[.int .u32 ((x0 + y0) % 65536), .int .u32 ((x1 + y1 + o1) % 65536), .int .u32 ((x2 + y2 + o2) % 65536), .int .u32 ((x3 + y3 + o3) % 65536), .int .u32 ((x4 + y4 + o4) % 65536), .int .u32 ((x5 + y5 + o5) % 65536), .int .u32 ((x6 + y6 + o6) % 65536), .int .u32 0]) ?_ 7 _ rfl
    refine blk_put (cs := #[.int .u32 ((x0 + y0) % 65536), .int .u32 ((x1 + y1 + o1) % 65536), .int .u32 ((x2 + y2 + o2) % 65536), .int .u32 ((x3 + y3 + o3) % 65536), .int .u32 ((x4 + y4 + o4) % 65536), .int .u32 ((x5 + y5 + o5) % 65536), .int .u32 0, .int .u32 0]) ?_ 6 _ rfl
    refine blk_put (cs := #[.int .u32 ((x0 + y0) % 65536), .int .u32 ((x1 + y1 + o1) % 65536), .int .u32 ((x2 + y2 + o2) % 65536), .int .u32 ((x3 + y3 + o3) % 65536), .int .u32 ((x4 + y4 + o4) % 65536), .int .u32 0, .int .u32 0, .int .u32 0]) ?_ 5 _ rfl
    refine blk_put (cs := #[.int .u32 ((x0 + y0) % 65536), .int .u32 ((x1 + y1 + o1) % 65536), .int .u32 ((x2 + y2 + o2) % 65536), .int .u32 ((x3 + y3 + o3) % 65536), .int .u32 0, .int .u32 0, .int .u32 0, .int .u32 0]) ?_ 4 _ rfl
    refine blk_put (cs := #[.int .u32 ((x0 + y0) % 65536), .int .u32 ((x1 + y1 + o1) % 65536), .int .u32 ((x2 + y2 + o2) % 65536), .int .u32 0, .int .u32 0, .int .u32 0, .int .u32 0, .int .u32 0]) ?_ 3 _ rfl
    refine blk_put (cs := #[.int .u32 ((x0 + y0) % 65536), .int .u32 ((x1 + y1 + o1) % 65536), .int .u32 0, .int .u32 0, .int .u32 0, .int .u32 0, .int .u32 0, .int .u32 0]) ?_ 2 _ rfl
    refine blk_put (cs := #[.int .u32 ((x0 + y0) % 65536), .int .u32 0, .int .u32 0, .int .u32 0, .int .u32 0, .int .u32 0, .int .u32 0, .int .u32 0]) ?_ 1 _ rfl
    refine blk_put (cs := #[.int .u32 0, .int .u32 0, .int .u32 0, .int .u32 0, .int .u32 0, .int .u32 0, .int .u32 0, .int .u32 0]) ?_ 0 _ rfl
    refine blk_far ?_ NB4_6.out _
    refine blk_drewN ?_ _
    refine blk_far ?_ NB4_6.out _
    refine blk_drewN ?_ _
    refine blk_far ?_ NB4_6.out _
    refine blk_drewN ?_ _
    refine blk_far ?_ NB4_6.out _
    refine blk_drewN ?_ _
    refine blk_far ?_ NB4_6.out _
    refine blk_drewN ?_ _
    refine blk_far ?_ NB4_6.out _
    refine blk_drewN ?_ _
    refine blk_far ?_ NB4_6.out _
    refine blk_drewN ?_ _
    refine blk_far ?_ NB4_6.out _
    refine blk_drewN ?_ _
    exact BK4.out
  refine below_set ?_ GE4.out
  refine below_set ?_ GE4.out
  refine below_set ?_ GE4.out
  refine below_set ?_ GE4.out
  refine below_set ?_ GE4.out
  refine below_set ?_ GE4.out
  refine below_set ?_ GE4.out
  refine below_set ?_ GE4.out
  refine below_set ?_ GE6.out
  refine pw_below_drewN ?_ _
  refine below_set ?_ GE6.out
  refine pw_below_drewN ?_ _
  refine below_set ?_ GE6.out
  refine pw_below_drewN ?_ _
  refine below_set ?_ GE6.out
  refine pw_below_drewN ?_ _
  refine below_set ?_ GE6.out
  refine pw_below_drewN ?_ _
  refine below_set ?_ GE6.out
  refine pw_below_drewN ?_ _
  refine below_set ?_ GE6.out
  refine pw_below_drewN ?_ _
  refine below_set ?_ GE6.out
  refine pw_below_drewN ?_ _
  exact HB.out
theorem arrearsref03_Add.calls (a0_0 : Int) (a0_1 : Int) (a0_2 : Int) (a0_3 : Int) (a0_4 : Int) (a0_5 : Int) (a0_6 : Int) (a0_7 : Int) (a1_0 : Int) (a1_1 : Int) (a1_2 : Int) (a1_3 : Int) (a1_4 : Int) (a1_5 : Int) (a1_6 : Int) (a1_7 : Int) (r1 : Int) (r2 : Int) (r3 : Int) (r4 : Int) (r5 : Int) (r6 : Int) (r7 : Int) (r8 : Int) (r9 : Bool) (w : World) (h : arrearsref03_Add.f a0_0 a0_1 a0_2 a0_3 a0_4 a0_5 a0_6 a0_7 a1_0 a1_1 a1_2 a1_3 a1_4 a1_5 a1_6 a1_7 = some (r1, r2, r3, r4, r5, r6, r7, r8, r9)) :
    Calls Tryd.prog 19 #[.agg #[.int .u32 a0_0, .int .u32 a0_1, .int .u32 a0_2, .int .u32 a0_3, .int .u32 a0_4, .int .u32 a0_5, .int .u32 a0_6, .int .u32 a0_7], .agg #[.int .u32 a1_0, .int .u32 a1_1, .int .u32 a1_2, .int .u32 a1_3, .int .u32 a1_4, .int .u32 a1_5, .int .u32 a1_6, .int .u32 a1_7]] w fun e w' => e = .returned (.tuple #[.agg #[.int .u32 r1, .int .u32 r2, .int .u32 r3, .int .u32 r4, .int .u32 r5, .int .u32 r6, .int .u32 r7, .int .u32 r8], .bool r9]) ∧ Below w.heap.size w w' := by
  unfold arrearsref03_Add.f at h
  split at h
  · rename_i hb
    obtain ⟨h0, h1, h2, h3, h4, h5, h6, h7, g0, g1, g2, g3, g4, g5, g6, g7⟩ := hb
    simp only [Option.some.injEq, Prod.mk.injEq] at h
    obtain ⟨rfl, rfl, rfl, rfl, rfl, rfl, rfl, rfl, rfl⟩ := h
    have k1 := carry_bd0 h0 g0
    have k2 := carry_bd h1 g1 k1
    have k3 := carry_bd h2 g2 k2
    have k4 := carry_bd h3 g3 k3
    have k5 := carry_bd h4 g4 k4
    have k6 := carry_bd h5 g5 k5
    have k7 := carry_bd h6 g6 k6
    have k8 := carry_bd h7 g7 k7
    exact add_ok _ _ _ _ _ _ _ _ _ _ _ _ _ _ _ _ _ _ _ _ _ _ _ _ h0 g0 h1 g1 h2 g2 h3 g3 h4 g4 h5 g5 h6 g6 h7 g7 k1 rfl k2 rfl k3 rfl k4 rfl k5 rfl k6 rfl k7 rfl k8 rfl w
  · exact absurd h (by simp)


/-! ### arrearsref03_Word: function 25 -/
def arrearsref03_Word.f (a0_0 : Int) (a0_1 : Int) (a0_2 : Int) (a0_3 : Int) (a0_4 : Int) (a0_5 : Int) (a0_6 : Int) (a0_7 : Int) (a1 : Bool) : Option (Int) :=
  if (0 ≤ a0_0 ∧ a0_0 ≤ 65535) ∧ (0 ≤ a0_1 ∧ a0_1 ≤ 65535) ∧ (0 ≤ a0_2 ∧ a0_2 ≤ 65535) ∧ (0 ≤ a0_3 ∧ a0_3 ≤ 65535) ∧ (0 ≤ a0_4 ∧ a0_4 ≤ 65535) ∧ (0 ≤ a0_5 ∧ a0_5 ≤ 65535) ∧ (0 ≤ a0_6 ∧ a0_6 ≤ 65535) ∧ (0 ≤ a0_7 ∧ a0_7 ≤ 65535) then some (if a1 = true then ((a0_7 * 65536 + a0_6) * 65536 + a0_5) * 65536 + a0_4 else ((a0_3 * 65536 + a0_2) * 65536 + a0_1) * 65536 + a0_0) else none
set_option maxHeartbeats 4000000 in
theorem word_low (x0 x1 x2 x3 x4 x5 x6 x7 : Int) (h0 : 0 ≤ x0 ∧ x0 ≤ 65535) (h1 : 0 ≤ x1 ∧ x1 ≤ 65535) (h2 : 0 ≤ x2 ∧ x2 ≤ 65535) (h3 : 0 ≤ x3 ∧ x3 ≤ 65535) (h4 : 0 ≤ x4 ∧ x4 ≤ 65535) (h5 : 0 ≤ x5 ∧ x5 ≤ 65535) (h6 : 0 ≤ x6 ∧ x6 ≤ 65535) (h7 : 0 ≤ x7 ∧ x7 ≤ 65535) (w : World) :
    Calls Tryd.prog 25 #[.agg #[.int .u32 x0, .int .u32 x1, .int .u32 x2, .int .u32 x3, .int .u32 x4, .int .u32 x5, .int .u32 x6, .int .u32 x7], .bool false] w fun e w' => e = .returned (.int .u64 (((x3 * 65536 + x2) * 65536 + x1) * 65536 + x0)) ∧ Below w.heap.size w w' := by
  go_enter Tryd.func25, Tryd.ntmps25
  go_wp2_with (first | ((with_reducible refine gate_dst (N := 2) rfl ?_); (try (refine gate_guard (by rfl) ?_; dsimp only)); refine box_event ?hg (N := 2) ?hd (cs := #[.int .u32 x0, .int .u32 x1, .int .u32 x2, .int .u32 x3, .int .u32 x4, .int .u32 x5, .int .u32 x6, .int .u32 x7]) (t := 46) ?hr ?_; (case hd => rfl); (case hg => rfl); (case hr => first | (go_simp; done) | (go_simp; rfl)); intro gb2 hg w2 hbox hb; have BK2 := Aside0.mk hbox; have HB := Aside0.mk hb; clear hbox hb hg))
  have hc0 : w2.cell? ⟨gb2, 0, none⟩ = some (.int .u32 x0) := (blk_cell BK2.out 0).trans rfl
  have hf0 := blk_frozen BK2.out 0
  have hc1 : w2.cell? ⟨gb2, 1, none⟩ = some (.int .u32 x1) := (blk_cell BK2.out 1).trans rfl
  have hf1 := blk_frozen BK2.out 1
  have hc2 : w2.cell? ⟨gb2, 2, none⟩ = some (.int .u32 x2) := (blk_cell BK2.out 2).trans rfl
  have hf2 := blk_frozen BK2.out 2
  have hc3 : w2.cell? ⟨gb2, 3, none⟩ = some (.int .u32 x3) := (blk_cell BK2.out 3).trans rfl
  have hf3 := blk_frozen BK2.out 3
  have hc4 : w2.cell? ⟨gb2, 4, none⟩ = some (.int .u32 x4) := (blk_cell BK2.out 4).trans rfl
  have hf4 := blk_frozen BK2.out 4
  have hc5 : w2.cell? ⟨gb2, 5, none⟩ = some (.int .u32 x5) := (blk_cell BK2.out 5).trans rfl
  have hf5 := blk_frozen BK2.out 5
  have hc6 : w2.cell? ⟨gb2, 6, none⟩ = some (.int .u32 x6) := (blk_cell BK2.out 6).trans rfl
  have hf6 := blk_frozen BK2.out 6
  have hc7 : w2.cell? ⟨gb2, 7, none⟩ = some (.int .u32 x7) := (blk_cell BK2.out 7).trans rfl
  have hf7 := blk_frozen BK2.out 7
  refine wp_loop_rounds 5 ?_
  rw [rounds_succ]
  go_wp2
  rw [rounds_succ]
  go_wp2
  rw [rounds_succ]
  go_wp2
  rw [rounds_succ]
  go_wp2
  rw [rounds_succ]
  go_wp2
  refine bodyPost_ret (v := .int .u64 (((x3 * 65536 + x2) * 65536 + x1) * 65536 + x0)) (results_single (r := .tmp 4) rfl (.tmp .nil)) rfl ⟨rfl, ?_⟩
  exact HB.out
set_option maxHeartbeats 4000000 in
theorem word_high (x0 x1 x2 x3 x4 x5 x6 x7 : Int) (h0 : 0 ≤ x0 ∧ x0 ≤ 65535) (h1 : 0 ≤ x1 ∧ x1 ≤ 65535) (h2 : 0 ≤ x2 ∧ x2 ≤ 65535) (h3 : 0 ≤ x3 ∧ x3 ≤ 65535) (h4 : 0 ≤ x4 ∧ x4 ≤ 65535) (h5 : 0 ≤ x5 ∧ x5 ≤ 65535) (h6 : 0 ≤ x6 ∧ x6 ≤ 65535) (h7 : 0 ≤ x7 ∧ x7 ≤ 65535) (w : World) :
    Calls Tryd.prog 25 #[.agg #[.int .u32 x0, .int .u32 x1, .int .u32 x2, .int .u32 x3, .int .u32 x4, .int .u32 x5, .int .u32 x6, .int .u32 x7], .bool true] w fun e w' => e = .returned (.int .u64 (((x7 * 65536 + x6) * 65536 + x5) * 65536 + x4)) ∧ Below w.heap.size w w' := by
  go_enter Tryd.func25, Tryd.ntmps25
  go_wp2_with (first | ((with_reducible refine gate_dst (N := 2) rfl ?_); (try (refine gate_guard (by rfl) ?_; dsimp only)); refine box_event ?hg (N := 2) ?hd (cs := #[.int .u32 x0, .int .u32 x1, .int .u32 x2, .int .u32 x3, .int .u32 x4, .int .u32 x5, .int .u32 x6, .int .u32 x7]) (t := 46) ?hr ?_; (case hd => rfl); (case hg => rfl); (case hr => first | (go_simp; done) | (go_simp; rfl)); intro gb2 hg w2 hbox hb; have BK2 := Aside0.mk hbox; have HB := Aside0.mk hb; clear hbox hb hg))
  have hc0 : w2.cell? ⟨gb2, 0, none⟩ = some (.int .u32 x0) := (blk_cell BK2.out 0).trans rfl
  have hf0 := blk_frozen BK2.out 0
  have hc1 : w2.cell? ⟨gb2, 1, none⟩ = some (.int .u32 x1) := (blk_cell BK2.out 1).trans rfl
  have hf1 := blk_frozen BK2.out 1
  have hc2 : w2.cell? ⟨gb2, 2, none⟩ = some (.int .u32 x2) := (blk_cell BK2.out 2).trans rfl
  have hf2 := blk_frozen BK2.out 2
  have hc3 : w2.cell? ⟨gb2, 3, none⟩ = some (.int .u32 x3) := (blk_cell BK2.out 3).trans rfl
  have hf3 := blk_frozen BK2.out 3
  have hc4 : w2.cell? ⟨gb2, 4, none⟩ = some (.int .u32 x4) := (blk_cell BK2.out 4).trans rfl
  have hf4 := blk_frozen BK2.out 4
  have hc5 : w2.cell? ⟨gb2, 5, none⟩ = some (.int .u32 x5) := (blk_cell BK2.out 5).trans rfl
  have hf5 := blk_frozen BK2.out 5
  have hc6 : w2.cell? ⟨gb2, 6, none⟩ = some (.int .u32 x6) := (blk_cell BK2.out 6).trans rfl
  have hf6 := blk_frozen BK2.out 6
  have hc7 : w2.cell? ⟨gb2, 7, none⟩ = some (.int .u32 x7) := (blk_cell BK2.out 7).trans rfl
  have hf7 := blk_frozen BK2.out 7
  refine wp_loop_rounds 5 ?_
  rw [rounds_succ]
  go_wp2
  rw [rounds_succ]
  go_wp2
  rw [rounds_succ]
  go_wp2
  rw [rounds_succ]
  go_wp2
  rw [rounds_succ]
  go_wp2
  refine bodyPost_ret (v := .int .u64 (((x7 * 65536 + x6) * 65536 + x5) * 65536 + x4)) (results_single (r := .tmp 4) rfl (.tmp .nil)) rfl ⟨rfl, ?_⟩
  exact HB.out
theorem arrearsref03_Word.calls (a0_0 : Int) (a0_1 : Int) (a0_2 : Int) (a0_3 : Int) (a0_4 : Int) (a0_5 : Int) (a0_6 : Int) (a0_7 : Int) (a1 : Bool) (r : Int) (w : World) (h : arrearsref03_Word.f a0_0 a0_1 a0_2 a0_3 a0_4 a0_5 a0_6 a0_7 a1 = some r) :
    Calls Tryd.prog 25 #[.agg #[.int .u32 a0_0, .int .u32 a0_1, .int .u32 a0_2, .int .u32 a0_3, .int .u32 a0_4, .int .u32 a0_5, .int .u32 a0_6, .int .u32 a0_7], .bool a1] w fun e w' => e = .returned (.int .u64 r) ∧ Below w.heap.size w w' := by
  unfold arrearsref03_Word.f at h
  split at h
  · rename_i hb
    obtain ⟨h0, h1, h2, h3, h4, h5, h6, h7⟩ := hb
    obtain rfl := Option.some.inj h
    cases a1 with
    | false => exact word_low _ _ _ _ _ _ _ _ h0 h1 h2 h3 h4 h5 h6 h7 w
    | true => exact word_high _ _ _ _ _ _ _ _ h0 h1 h2 h3 h4 h5 h6 h7 w
  · exact absurd h (by simp)


/-! ### arrearslaw03_same: function 20 -/
def arrearslaw03_same.f (a0_0 : Int) (a0_1 : Int) (a1_0 : Int) (a1_1 : Int) (a1_2 : Int) (a1_3 : Int) (a1_4 : Int) (a1_5 : Int) (a1_6 : Int) (a1_7 : Int) : Option (Bool) := (arrearsref03_Word.f a1_0 a1_1 a1_2 a1_3 a1_4 a1_5 a1_6 a1_7 true).bind fun t133 => (if a0_0 = t133 then ((arrearsref03_Word.f a1_0 a1_1 a1_2 a1_3 a1_4 a1_5 a1_6 a1_7 false).bind fun t134 => (some (a0_1 == t134))) else (some false))
def arrearslaw03_same.T1 : Bool × List (List Nat × List Nat) := (true, [([], []), ([0], [0]), ([], []), ([2], [2]), ([1, 3], [1, 3]), ([4, 3], [4]), ([5], [5]), ([6, 5], [5, 6]), ([5], [5]), ([8, 5, 5], [5, 8]), ([7, 9, 5], [5, 7, 9]), ([5, 10], [5, 10]), ([11, 9, 0, 1, 2, 3, 4, 5, 6, 7, 8, 9, 10, 11], [11])])
def arrearslaw03_same.B1 : List Nat := [0, 1, 0, 4, 15, 31, 63, 127, 63, 319, 1023, 2047, 4095]
theorem arrearslaw03_same.tab1 : rtab .any (opsOf Tryd.f20 1) = arrearslaw03_same.T1 := by kernel_rfl
theorem arrearslaw03_same.bits1 : waitsOk arrearslaw03_same.T1.2 arrearslaw03_same.B1 = true := by kernel_rfl
set_option maxHeartbeats 8000000 in
set_option maxRecDepth 100000 in
theorem arrearslaw03_same.calls (a0_0 : Int) (a0_1 : Int) (a1_0 : Int) (a1_1 : Int) (a1_2 : Int) (a1_3 : Int) (a1_4 : Int) (a1_5 : Int) (a1_6 : Int) (a1_7 : Int) (r : Bool) (w : World) (h : arrearslaw03_same.f a0_0 a0_1 a1_0 a1_1 a1_2 a1_3 a1_4 a1_5 a1_6 a1_7 = some r) :
    Calls Tryd.prog 20 #[.agg #[.int .u64 a0_0, .int .u64 a0_1], .agg #[.int .u32 a1_0, .int .u32 a1_1, .int .u32 a1_2, .int .u32 a1_3, .int .u32 a1_4, .int .u32 a1_5, .int .u32 a1_6, .int .u32 a1_7]] w fun e w' => e = .returned (.bool r) ∧ Below w.heap.size w w' := by
  have hu36 := Tryd.underlying36
  have hu46 := Tryd.underlying46
  have HB := Aside0.mk (Below.refl w.heap.size w)
  have H : ((arrearsref03_Word.f a1_0 a1_1 a1_2 a1_3 a1_4 a1_5 a1_6 a1_7 true).bind fun t133 => (if a0_0 = t133 then ((arrearsref03_Word.f a1_0 a1_1 a1_2 a1_3 a1_4 a1_5 a1_6 a1_7 false).bind fun t134 => (some (a0_1 == t134))) else (some false))) = some r := h
  clear h
  replace H := Option.bind_eq_some_iff.mp H
  obtain ⟨t133, A30, H⟩ := H
  replace H : (if a0_0 = t133 then ((arrearsref03_Word.f a1_0 a1_1 a1_2 a1_3 a1_4 a1_5 a1_6 a1_7 false).bind fun t134 => (some (a0_1 == t134))) else (some false)) = some r := H
  have A3 := Aside0.mk A30
  clear A30
  by_cases c4 : a0_0 = t133
  · rw [if_pos c4] at H
    have c4b0 : (a0_0 == t133) = true := beq_iff_eq.mpr c4
    have c4b1 : (a0_0 != t133) = false := bne_eq_false_iff_eq.mpr c4
    clear c4
    replace H := Option.bind_eq_some_iff.mp H
    obtain ⟨t134, A50, H⟩ := H
    replace H : (some (a0_1 == t134)) = some r := H
    have A5 := Aside0.mk A50
    clear A50
    obtain rfl := Option.some.inj H
    go_enter Tryd.func20, Tryd.ntmps20
    try go_wp2_with (first | ((with_reducible refine gate_dst (N := 2) rfl ?_); refine box_event ?hg (N := 2) ?hd (cs := #[.int .u64 a0_0, .int .u64 a0_1]) (t := 36) ?hr ?_; (case hd => rfl); (case hg => rfl); (case hr => first | (go_simp; done) | (go_simp; rfl)); intro gb131 hg w6 hbox hb; have n0_ := Aside0.mk (below_step (by repeat (first | (with_reducible first | exact HB.out | apply below_alloc | apply pw_below_drewN | apply below_drew1) | exact HB.out)) hb); have n1_ := Aside0.mk (hbox); have n2_ := Aside0.mk ((by rw [hg]; exact (below_size (by repeat (first | (with_reducible first | exact HB.out | apply below_alloc | apply pw_below_drewN | apply below_drew1) | exact HB.out))) : w.heap.size ≤ gb131)); have n3_ := Aside0.mk ((by rw [hg]; exact (below_size (by repeat (first | (with_reducible first | exact HB.out | apply below_alloc | apply pw_below_drewN | apply below_drew1) | exact HB.out))) : w.heap.size ≤ gb131)); clear HB; have HB := n0_; have BK131 := n1_; have GW131 := n2_; have GE131 := n3_; clear n0_ n1_ n2_ n3_; clear hb hbox hg) | ((with_reducible refine gate_dst (N := 3) rfl ?_); refine box_event ?hg (N := 3) ?hd (cs := #[.int .u32 a1_0, .int .u32 a1_1, .int .u32 a1_2, .int .u32 a1_3, .int .u32 a1_4, .int .u32 a1_5, .int .u32 a1_6, .int .u32 a1_7]) (t := 46) ?hr ?_; (case hd => rfl); (case hg => rfl); (case hr => first | (go_simp; done) | (go_simp; rfl)); intro gb132 hg w7 hbox hb; have n0_ := Aside0.mk (blk_below (g := gb131) (o := .cells #[.int .u64 a0_0, .int .u64 a0_1] 36 (0, 0)) (by (with_reducible repeat (first | refine blk_drewN ?_ _ | refine blk_drew ?_ | refine blk_alloc ?_ _)); exact BK131.out) hb); have n1_ := Aside0.mk (below_step (by repeat (first | (with_reducible first | exact HB.out | apply below_alloc | apply pw_below_drewN | apply below_drew1 | refine below_set ?_ GE131.out) | exact HB.out)) hb); have n2_ := Aside0.mk (hbox); have n3_ := Aside0.mk ((by rw [hg]; exact (below_size (by repeat (first | (with_reducible first | exact HB.out | apply below_alloc | apply pw_below_drewN | apply below_drew1 | refine below_set ?_ GE131.out) | exact HB.out))) : w.heap.size ≤ gb132)); have n4_ := Aside0.mk ((by rw [hg]; exact (below_size (by repeat (first | (with_reducible first | exact HB.out | apply below_alloc | apply pw_below_drewN | apply below_drew1 | refine below_set ?_ GE131.out) | exact HB.out))) : w.heap.size ≤ gb132)); have n5_ := Aside0.mk ((by rw [hg]; exact Nat.ne_of_lt (blk_lt (g := gb131) (o := .cells #[.int .u64 a0_0, .int .u64 a0_1] 36 (0, 0)) (by (with_reducible repeat (first | refine blk_drewN ?_ _ | refine blk_drew ?_ | refine blk_alloc ?_ _)); exact BK131.out)) : gb131 ≠ gb132)); have n6_ := Aside0.mk ((by rw [hg]; exact Nat.ne_of_gt (blk_lt (g := gb131) (o := .cells #[.int .u64 a0_0, .int .u64 a0_1] 36 (0, 0)) (by (with_reducible repeat (first | refine blk_drewN ?_ _ | refine blk_drew ?_ | refine blk_alloc ?_ _)); exact BK131.out)) : gb132 ≠ gb131)); clear BK131; clear HB; have BK131 := n0_; have HB := n1_; have BK132 := n2_; have GW132 := n3_; have GE132 := n4_; have NB131_132 := n5_; have NB132_131 := n6_; clear n0_ n1_ n2_ n3_ n4_ n5_ n6_; clear hb hbox hg))
    have n0_ := Aside0.mk (blk_drew BK131.out)
    have n1_ := Aside0.mk (blk_drew BK132.out)
    have n2_ := Aside0.mk (below_drew1 HB.out)
    clear BK131
    clear BK132
    clear HB
    have BK131 := n0_
    have BK132 := n1_
    have HB := n2_
    clear n0_ n1_ n2_
    refine start_ (n := 13) (S := fun w' => w'.cell? ⟨gb131, 0, none⟩ = some (.int .u64 a0_0) ∧ w'.cell? ⟨gb131, 1, none⟩ = some (.int .u64 a0_1) ∧ w'.cell? ⟨gb132, 0, none⟩ = some (.int .u32 a1_0) ∧ w'.cell? ⟨gb132, 1, none⟩ = some (.int .u32 a1_1) ∧ w'.cell? ⟨gb132, 2, none⟩ = some (.int .u32 a1_2) ∧ w'.cell? ⟨gb132, 3, none⟩ = some (.int .u32 a1_3) ∧ w'.cell? ⟨gb132, 4, none⟩ = some (.int .u32 a1_4) ∧ w'.cell? ⟨gb132, 5, none⟩ = some (.int .u32 a1_5) ∧ w'.cell? ⟨gb132, 6, none⟩ = some (.int .u32 a1_6) ∧ w'.cell? ⟨gb132, 7, none⟩ = some (.int .u32 a1_7)) (ds := []) #[false, false, false, false, false, false, false, false, false, false, false, false, false] (by kernel_rfl) rfl rfl ⟨(blk_cell BK131.out 0).trans rfl, (blk_cell BK131.out 1).trans rfl, (blk_cell BK132.out 0).trans rfl, (blk_cell BK132.out 1).trans rfl, (blk_cell BK132.out 2).trans rfl, (blk_cell BK132.out 3).trans rfl, (blk_cell BK132.out 4).trans rfl, (blk_cell BK132.out 5).trans rfl, (blk_cell BK132.out 6).trans rfl, (blk_cell BK132.out 7).trans rfl⟩ (fun hHeld => ?_); refine with_tabW arrearslaw03_same.tab1 arrearslaw03_same.bits1 (fun HT_ HW_ => ?_)
    generalize w7.drew = w8 at BK131 BK132 HB hHeld ⊢
    refine pure_ (i := 0) (N := some 5) (v := ?_) (a' := ?_) #[true, false, false, false, false, false, false, false, false, false, false, false, false] rfl rfl (any_of HT_.out (by kernel_rfl)) (fun _ _ _ h => h) (Or.inl ⟨by rfl, ?_⟩) ?_ ?_
    rotate_left
    · intro w'
      go_simp
      with_reducible rfl
    rotate_left
    · simp only [Act.put, List.setIfInBounds_toArray, List.set_cons_zero, List.set_cons_succ, i64_w, i32_w]
      rfl
    refine take_ (i := 1) (N := some 6) (v := ?_) (a' := ?_) #[true, true, false, false, false, false, false, false, false, false, false, false, false] rfl rfl (take_ofW HT_.out HW_.out (by kernel_rfl)) (fun _ _ _ h => h) (Or.inl ⟨by rfl, ?_⟩) hHeld ?_ ?_
    rotate_left
    · rintro w' ⟨s0, s1, s2, s3, s4, s5, s6, s7, s8, s9⟩
      go_simp
      with_reducible rfl
    rotate_left
    · simp only [Act.put, List.setIfInBounds_toArray, List.set_cons_zero, List.set_cons_succ, i64_w, i32_w]
      rfl
    refine take_ (i := 2) (N := some 7) (v := ?_) (a' := ?_) #[true, true, true, false, false, false, false, false, false, false, false, false, false] rfl rfl (take_ofW HT_.out HW_.out (by kernel_rfl)) (fun _ _ _ h => h) (Or.inl ⟨by rfl, ?_⟩) hHeld ?_ ?_
    rotate_left
    · rintro w' ⟨s0, s1, s2, s3, s4, s5, s6, s7, s8, s9⟩
      go_simp
      with_reducible rfl
    rotate_left
    · simp only [Act.put, List.setIfInBounds_toArray, List.set_cons_zero, List.set_cons_succ, i64_w, i32_w]
      rfl
    refine one_ (i := 3) (N := some 8) #[true, true, true, true, false, false, false, false, false, false, false, false, false] rfl rfl (one_of HT_.out (by kernel_rfl)) (by decide) (fun K hK => ?_)
    refine goes_ Tryd.func25 (by kernel_rfl) rfl #[.agg #[.int .u32 a1_0, .int .u32 a1_1, .int .u32 a1_2, .int .u32 a1_3, .int .u32 a1_4, .int .u32 a1_5, .int .u32 a1_6, .int .u32 a1_7], .bool true] (by rfl) rfl rfl (by (try simp only [List.map_toArray, List.map_cons, List.map_nil]); first | done | rfl | (simp only [List.length_drop, List.length_take]; rfl)) ?_
    with_reducible refine (arrearsref03_Word.calls a1_0 a1_1 a1_2 a1_3 a1_4 a1_5 a1_6 a1_7 true t133 _ A3.out).mono ?_
    rintro e w9 ⟨rfl, hb⟩
    refine ⟨_, rfl, ?_⟩
    have n0_ := Aside0.mk (blk_below (g := gb131) (o := .cells #[.int .u64 a0_0, .int .u64 a0_1] 36 (0, 0)) (by (with_reducible repeat (first | refine blk_drewN ?_ _ | refine blk_drew ?_ | refine blk_alloc ?_ _)); exact BK131.out) hb)
    have n1_ := Aside0.mk (blk_below (g := gb132) (o := .cells #[.int .u32 a1_0, .int .u32 a1_1, .int .u32 a1_2, .int .u32 a1_3, .int .u32 a1_4, .int .u32 a1_5, .int .u32 a1_6, .int .u32 a1_7] 46 (0, 0)) (by (with_reducible repeat (first | refine blk_drewN ?_ _ | refine blk_drew ?_ | refine blk_alloc ?_ _)); exact BK132.out) hb)
    have n2_ := Aside0.mk (below_step (by repeat (first | (with_reducible first | exact HB.out | apply below_alloc | apply pw_below_drewN | apply below_drew1 | refine below_set ?_ GE131.out | refine below_set ?_ GE132.out) | exact HB.out)) hb)
    clear BK131
    clear BK132
    clear HB
    have BK131 := n0_
    have BK132 := n1_
    have HB := n2_
    clear n0_ n1_ n2_
    (try clear hb)
    (try clear hb2)
    (try clear hk)
    (try clear hi)
    refine hK.out _ _ ⟨(blk_cell BK131.out 0).trans rfl, (blk_cell BK131.out 1).trans rfl, (blk_cell BK132.out 0).trans rfl, (blk_cell BK132.out 1).trans rfl, (blk_cell BK132.out 2).trans rfl, (blk_cell BK132.out 3).trans rfl, (blk_cell BK132.out 4).trans rfl, (blk_cell BK132.out 5).trans rfl, (blk_cell BK132.out 6).trans rfl, (blk_cell BK132.out 7).trans rfl⟩ (fun hHeld => ?_)
    clear hK K
    refine norm_ (a' := ?_) ?_ ?_
    rotate_left
    · show Act.put _ (some 8) _ = _
      simp only [Act.put, List.setIfInBounds_toArray, List.set_cons_zero, List.set_cons_succ, i64_w, i32_w]
      rfl
    refine pure_ (i := 4) (N := some 9) (v := ?_) (a' := ?_) #[true, true, true, true, true, false, false, false, false, false, false, false, false] rfl rfl (any_of HT_.out (by kernel_rfl)) (fun _ _ _ h => h) (Or.inl ⟨by rfl, ?_⟩) ?_ ?_
    rotate_left
    · intro w'
      go_simp
      with_reducible rfl
    rotate_left
    · simp only [Act.put, List.setIfInBounds_toArray, List.set_cons_zero, List.set_cons_succ, i64_w, i32_w]
      rfl
    refine pure_ (i := 5) (N := some 10) (v := ?_) (a' := ?_) #[true, true, true, true, true, true, false, false, false, false, false, false, false] rfl rfl (any_of HT_.out (by kernel_rfl)) (fun _ _ _ h => h) (Or.inl ⟨by rfl, ?_⟩) ?_ ?_
    rotate_left
    · intro w'
      go_simp
      with_reducible rfl
    rotate_left
    · simp only [Act.put, List.setIfInBounds_toArray, List.set_cons_zero, List.set_cons_succ, i64_w, i32_w]
      rfl
    refine pure_ (i := 6) (N := some 11) (v := ?_) (a' := ?_) #[true, true, true, true, true, true, true, false, false, false, false, false, false] rfl rfl (any_of HT_.out (by kernel_rfl)) (fun _ _ _ h => h) (Or.inl ⟨by rfl, ?_⟩) ?_ ?_
    rotate_left
    · intro w'
      go_simp
      with_reducible rfl
    rotate_left
    · simp only [Act.put, List.setIfInBounds_toArray, List.set_cons_zero, List.set_cons_succ, i64_w, i32_w]
      rfl
    refine take_ (i := 7) (N := some 12) (v := ?_) (a' := ?_) #[true, true, true, true, true, true, true, true, false, false, false, false, false] rfl rfl (take_ofW HT_.out HW_.out (by kernel_rfl)) (fun _ _ _ h => h) (Or.inl ⟨by rfl, ?_⟩) hHeld ?_ ?_
    rotate_left
    · rintro w' ⟨s0, s1, s2, s3, s4, s5, s6, s7, s8, s9⟩
      go_simp
      with_reducible rfl
    rotate_left
    · simp only [Act.put, List.setIfInBounds_toArray, List.set_cons_zero, List.set_cons_succ, i64_w, i32_w]
      rfl
    refine take_ (i := 8) (N := some 13) (v := ?_) (a' := ?_) #[true, true, true, true, true, true, true, true, true, false, false, false, false] rfl rfl (take_ofW HT_.out HW_.out (by kernel_rfl)) (fun _ _ _ h => h) (Or.inl ⟨by rfl, ?_⟩) hHeld ?_ ?_
    rotate_left
    · rintro w' ⟨s0, s1, s2, s3, s4, s5, s6, s7, s8, s9⟩
      go_simp
      with_reducible rfl
    rotate_left
    · simp only [Act.put, List.setIfInBounds_toArray, List.set_cons_zero, List.set_cons_succ, i64_w, i32_w]
      rfl
    refine one_ (i := 9) (N := some 14) #[true, true, true, true, true, true, true, true, true, true, false, false, false] rfl rfl (one_of HT_.out (by kernel_rfl)) (by decide) (fun K hK => ?_)
    refine goes_ Tryd.func25 (by kernel_rfl) rfl #[.agg #[.int .u32 a1_0, .int .u32 a1_1, .int .u32 a1_2, .int .u32 a1_3, .int .u32 a1_4, .int .u32 a1_5, .int .u32 a1_6, .int .u32 a1_7], .bool false] (by rfl) rfl rfl (by (try simp only [List.map_toArray, List.map_cons, List.map_nil]); first | done | rfl | (simp only [List.length_drop, List.length_take]; rfl)) ?_
    with_reducible refine (arrearsref03_Word.calls a1_0 a1_1 a1_2 a1_3 a1_4 a1_5 a1_6 a1_7 false t134 _ A5.out).mono ?_
    rintro e w10 ⟨rfl, hb⟩
    refine ⟨_, rfl, ?_⟩
    have n0_ := Aside0.mk (blk_below (g := gb131) (o := .cells #[.int .u64 a0_0, .int .u64 a0_1] 36 (0, 0)) (by (with_reducible repeat (first | refine blk_drewN ?_ _ | refine blk_drew ?_ | refine blk_alloc ?_ _)); exact BK131.out) hb)
    have n1_ := Aside0.mk (blk_below (g := gb132) (o := .cells #[.int .u32 a1_0, .int .u32 a1_1, .int .u32 a1_2, .int .u32 a1_3, .int .u32 a1_4, .int .u32 a1_5, .int .u32 a1_6, .int .u32 a1_7] 46 (0, 0)) (by (with_reducible repeat (first | refine blk_drewN ?_ _ | refine blk_drew ?_ | refine blk_alloc ?_ _)); exact BK132.out) hb)
    have n2_ := Aside0.mk (below_step (by repeat (first | (with_reducible first | exact HB.out | apply below_alloc | apply pw_below_drewN | apply below_drew1 | refine below_set ?_ GE131.out | refine below_set ?_ GE132.out) | exact HB.out)) hb)
    clear BK131
    clear BK132
    clear HB
    have BK131 := n0_
    have BK132 := n1_
    have HB := n2_
    clear n0_ n1_ n2_
    (try clear hb)
    (try clear hb2)
    (try clear hk)
    (try clear hi)
    refine hK.out _ _ ⟨(blk_cell BK131.out 0).trans rfl, (blk_cell BK131.out 1).trans rfl, (blk_cell BK132.out 0).trans rfl, (blk_cell BK132.out 1).trans rfl, (blk_cell BK132.out 2).trans rfl, (blk_cell BK132.out 3).trans rfl, (blk_cell BK132.out 4).trans rfl, (blk_cell BK132.out 5).trans rfl, (blk_cell BK132.out 6).trans rfl, (blk_cell BK132.out 7).trans rfl⟩ (fun hHeld => ?_)
    clear hK K
    refine norm_ (a' := ?_) ?_ ?_
    rotate_left
    · show Act.put _ (some 14) _ = _
      simp only [Act.put, List.setIfInBounds_toArray, List.set_cons_zero, List.set_cons_succ, i64_w, i32_w]
      rfl
    refine pure_ (i := 10) (N := some 15) (v := ?_) (a' := ?_) #[true, true, true, true, true, true, true, true, true, true, true, false, false] rfl rfl (any_of HT_.out (by kernel_rfl)) (fun _ _ _ h => h) (Or.inl ⟨by rfl, ?_⟩) ?_ ?_
    rotate_left
    · intro w'
      go_simp
      with_reducible rfl
    rotate_left
    · simp only [Act.put, List.setIfInBounds_toArray, List.set_cons_zero, List.set_cons_succ, i64_w, i32_w]
      rfl
    refine pure_ (i := 11) (N := some 16) (v := ?_) (a' := ?_) #[true, true, true, true, true, true, true, true, true, true, true, true, false] rfl rfl (any_of HT_.out (by kernel_rfl)) (fun _ _ _ h => h) (Or.inl ⟨by rfl, ?_⟩) ?_ ?_
    rotate_left
    · intro w'
      go_simp
      with_reducible rfl
    rotate_left
    · simp only [Act.put, List.setIfInBounds_toArray, List.set_cons_zero, List.set_cons_succ, i64_w, i32_w]
      rfl
    refine pure_ (i := 12) (N := some 4) (v := ?_) (a' := ?_) #[true, true, true, true, true, true, true, true, true, true, true, true, true] rfl rfl (any_of HT_.out (by kernel_rfl)) (fun _ _ _ h => h) (Or.inl ⟨by rfl, ?_⟩) ?_ ?_
    rotate_left
    · intro w'
      go_simp
      with_reducible rfl
    rotate_left
    · simp only [Act.put, List.setIfInBounds_toArray, List.set_cons_zero, List.set_cons_succ, i64_w, i32_w]
      rfl
    refine done_ (done_of HT_.out (by kernel_rfl)) ?_
    (try simp only [errW_none, errW_some])
    try go_wp2
    go_ret
    exact ⟨by first | rfl | (simp [errW_none, errW_some] <;> rfl) | (simp [*, errW_none, errW_some] <;> rfl), by repeat (first | (with_reducible first | exact HB.out | apply below_alloc | apply pw_below_drewN | apply below_drew1 | refine below_set ?_ GE131.out | refine below_set ?_ GE132.out) | exact HB.out)⟩
  · rw [if_neg c4] at H
    have c4b0 : (a0_0 == t133) = false := beq_eq_false_iff_ne.mpr c4
    have c4b1 : (a0_0 != t133) = true := bne_iff_ne.mpr c4
    obtain rfl := Option.some.inj H
    go_enter Tryd.func20, Tryd.ntmps20
    try go_wp2_with (first | ((with_reducible refine gate_dst (N := 2) rfl ?_); refine box_event ?hg (N := 2) ?hd (cs := #[.int .u64 a0_0, .int .u64 a0_1]) (t := 36) ?hr ?_; (case hd => rfl); (case hg => rfl); (case hr => first | (go_simp; done) | (go_simp; rfl)); intro gb131 hg w11 hbox hb; have n0_ := Aside0.mk (below_step (by repeat (first | (with_reducible first | exact HB.out | apply below_alloc | apply pw_below_drewN | apply below_drew1) | exact HB.out)) hb); have n1_ := Aside0.mk (hbox); have n2_ := Aside0.mk ((by rw [hg]; exact (below_size (by repeat (first | (with_reducible first | exact HB.out | apply below_alloc | apply pw_below_drewN | apply below_drew1) | exact HB.out))) : w.heap.size ≤ gb131)); have n3_ := Aside0.mk ((by rw [hg]; exact (below_size (by repeat (first | (with_reducible first | exact HB.out | apply below_alloc | apply pw_below_drewN | apply below_drew1) | exact HB.out))) : w.heap.size ≤ gb131)); clear HB; have HB := n0_; have BK131 := n1_; have GW131 := n2_; have GE131 := n3_; clear n0_ n1_ n2_ n3_; clear hb hbox hg) | ((with_reducible refine gate_dst (N := 3) rfl ?_); refine box_event ?hg (N := 3) ?hd (cs := #[.int .u32 a1_0, .int .u32 a1_1, .int .u32 a1_2, .int .u32 a1_3, .int .u32 a1_4, .int .u32 a1_5, .int .u32 a1_6, .int .u32 a1_7]) (t := 46) ?hr ?_; (case hd => rfl); (case hg => rfl); (case hr => first | (go_simp; done) | (go_simp; rfl)); intro gb132 hg w12 hbox hb; have n0_ := Aside0.mk (blk_below (g := gb131) (o := .cells #[.int .u64 a0_0, .int .u64 a0_1] 36 (0, 0)) (by (with_reducible repeat (first | refine blk_drewN ?_ _ | refine blk_drew ?_ | refine blk_alloc ?_ _)); exact BK131.out) hb); have n1_ := Aside0.mk (below_step (by repeat (first | (with_reducible first | exact HB.out | apply below_alloc | apply pw_below_drewN | apply below_drew1 | refine below_set ?_ GE131.out) | exact HB.out)) hb); have n2_ := Aside0.mk (hbox); have n3_ := Aside0.mk ((by rw [hg]; exact (below_size (by repeat (first | (with_reducible first | exact HB.out | apply below_alloc | apply pw_below_drewN | apply below_drew1 | refine below_set ?_ GE131.out) | exact HB.out))) : w.heap.size ≤ gb132)); have n4_ := Aside0.mk ((by rw [hg]; exact (below_size (by repeat (first | (with_reducible first | exact HB.out | apply below_alloc | apply pw_below_drewN | apply below_drew1 | refine below_set ?_ GE131.out) | exact HB.out))) : w.heap.size ≤ gb132)); have n5_ := Aside0.mk ((by rw [hg]; exact Nat.ne_of_lt (blk_lt (g := gb131) (o := .cells #[.int .u64 a0_0, .int .u64 a0_1] 36 (0, 0)) (by (with_reducible repeat (first | refine blk_drewN ?_ _ | refine blk_drew ?_ | refine blk_alloc ?_ _)); exact BK131.out)) : gb131 ≠ gb132)); have n6_ := Aside0.mk ((by rw [hg]; exact Nat.ne_of_gt (blk_lt (g := gb131) (o := .cells #[.int .u64 a0_0, .int .u64 a0_1] 36 (0, 0)) (by (with_reducible repeat (first | refine blk_drewN ?_ _ | refine blk_drew ?_ | refine blk_alloc ?_ _)); exact BK131.out)) : gb132 ≠ gb131)); clear BK131; clear HB; have BK131 := n0_; have HB := n1_; have BK132 := n2_; have GW132 := n3_; have GE132 := n4_; have NB131_132 := n5_; have NB132_131 := n6_; clear n0_ n1_ n2_ n3_ n4_ n5_ n6_; clear hb hbox hg))
    have n0_ := Aside0.mk (blk_drew BK131.out)
    have n1_ := Aside0.mk (blk_drew BK132.out)
    have n2_ := Aside0.mk (below_drew1 HB.out)
    clear BK131
    clear BK132
    clear HB
    have BK131 := n0_
    have BK132 := n1_
    have HB := n2_
    clear n0_ n1_ n2_
    refine start_ (n := 13) (S := fun w' => w'.cell? ⟨gb131, 0, none⟩ = some (.int .u64 a0_0) ∧ w'.cell? ⟨gb131, 1, none⟩ = some (.int .u64 a0_1) ∧ w'.cell? ⟨gb132, 0, none⟩ = some (.int .u32 a1_0) ∧ w'.cell? ⟨gb132, 1, none⟩ = some (.int .u32 a1_1) ∧ w'.cell? ⟨gb132, 2, none⟩ = some (.int .u32 a1_2) ∧ w'.cell? ⟨gb132, 3, none⟩ = some (.int .u32 a1_3) ∧ w'.cell? ⟨gb132, 4, none⟩ = some (.int .u32 a1_4) ∧ w'.cell? ⟨gb132, 5, none⟩ = some (.int .u32 a1_5) ∧ w'.cell? ⟨gb132, 6, none⟩ = some (.int .u32 a1_6) ∧ w'.cell? ⟨gb132, 7, none⟩ = some (.int .u32 a1_7)) (ds := []) #[false, false, false, false, false, false, false, false, false, false, false, false, false] (by kernel_rfl) rfl rfl ⟨(blk_cell BK131.out 0).trans rfl, (blk_cell BK131.out 1).trans rfl, (blk_cell BK132.out 0).trans rfl, (blk_cell BK132.out 1).trans rfl, (blk_cell BK132.out 2).trans rfl, (blk_cell BK132.out 3).trans rfl, (blk_cell BK132.out 4).trans rfl, (blk_cell BK132.out 5).trans rfl, (blk_cell BK132.out 6).trans rfl, (blk_cell BK132.out 7).trans rfl⟩ (fun hHeld => ?_); refine with_tabW arrearslaw03_same.tab1 arrearslaw03_same.bits1 (fun HT_ HW_ => ?_)
    generalize w12.drew = w13 at BK131 BK132 HB hHeld ⊢
    refine pure_ (i := 0) (N := some 5) (v := ?_) (a' := ?_) #[true, false, false, false, false, false, false, false, false, false, false, false, false] rfl rfl (any_of HT_.out (by kernel_rfl)) (fun _ _ _ h => h) (Or.inl ⟨by rfl, ?_⟩) ?_ ?_
    rotate_left
    · intro w'
      go_simp
      with_reducible rfl
    rotate_left
    · simp only [Act.put, List.setIfInBounds_toArray, List.set_cons_zero, List.set_cons_succ, i64_w, i32_w]
      rfl
    refine take_ (i := 1) (N := some 6) (v := ?_) (a' := ?_) #[true, true, false, false, false, false, false, false, false, false, false, false, false] rfl rfl (take_ofW HT_.out HW_.out (by kernel_rfl)) (fun _ _ _ h => h) (Or.inl ⟨by rfl, ?_⟩) hHeld ?_ ?_
    rotate_left
    · rintro w' ⟨s0, s1, s2, s3, s4, s5, s6, s7, s8, s9⟩
      go_simp
      with_reducible rfl
    rotate_left
    · simp only [Act.put, List.setIfInBounds_toArray, List.set_cons_zero, List.set_cons_succ, i64_w, i32_w]
      rfl
    refine take_ (i := 2) (N := some 7) (v := ?_) (a' := ?_) #[true, true, true, false, false, false, false, false, false, false, false, false, false] rfl rfl (take_ofW HT_.out HW_.out (by kernel_rfl)) (fun _ _ _ h => h) (Or.inl ⟨by rfl, ?_⟩) hHeld ?_ ?_
    rotate_left
    · rintro w' ⟨s0, s1, s2, s3, s4, s5, s6, s7, s8, s9⟩
      go_simp
      with_reducible rfl
    rotate_left
    · simp only [Act.put, List.setIfInBounds_toArray, List.set_cons_zero, List.set_cons_succ, i64_w, i32_w]
      rfl
    refine one_ (i := 3) (N := some 8) #[true, true, true, true, false, false, false, false, false, false, false, false, false] rfl rfl (one_of HT_.out (by kernel_rfl)) (by decide) (fun K hK => ?_)
    refine goes_ Tryd.func25 (by kernel_rfl) rfl #[.agg #[.int .u32 a1_0, .int .u32 a1_1, .int .u32 a1_2, .int .u32 a1_3, .int .u32 a1_4, .int .u32 a1_5, .int .u32 a1_6, .int .u32 a1_7], .bool true] (by rfl) rfl rfl (by (try simp only [List.map_toArray, List.map_cons, List.map_nil]); first | done | rfl | (simp only [List.length_drop, List.length_take]; rfl)) ?_
    with_reducible refine (arrearsref03_Word.calls a1_0 a1_1 a1_2 a1_3 a1_4 a1_5 a1_6 a1_7 true t133 _ A3.out).mono ?_
    rintro e w14 ⟨rfl, hb⟩
    refine ⟨_, rfl, ?_⟩
    have n0_ := Aside0.mk (blk_below (g := gb131) (o := .cells #[.int .u64 a0_0, .int .u64 a0_1] 36 (0, 0)) (by (with_reducible repeat (first | refine blk_drewN ?_ _ | refine blk_drew ?_ | refine blk_alloc ?_ _)); exact BK131.out) hb)
    have n1_ := Aside0.mk (blk_below (g := gb132) (o := .cells #[.int .u32 a1_0, .int .u32 a1_1, .int .u32 a1_2, .int .u32 a1_3, .int .u32 a1_4, .int .u32 a1_5, .int .u32 a1_6, .int .u32 a1_7] 46 (0, 0)) (by (with_reducible repeat (first | refine blk_drewN ?_ _ | refine blk_drew ?_ | refine blk_alloc ?_ _)); exact BK132.out) hb)
    have n2_ := Aside0.mk (below_step (by repeat (first | (with_reducible first | exact HB.out | apply below_alloc | apply pw_below_drewN | apply below_drew1 | refine below_set ?_ GE131.out | refine below_set ?_ GE132.out) | exact HB.out)) hb)
    clear BK131
    clear BK132
    clear HB
    have BK131 := n0_
    have BK132 := n1_
    have HB := n2_
    clear n0_ n1_ n2_
    (try clear hb)
    (try clear hb2)
    (try clear hk)
    (try clear hi)
    refine hK.out _ _ ⟨(blk_cell BK131.out 0).trans rfl, (blk_cell BK131.out 1).trans rfl, (blk_cell BK132.out 0).trans rfl, (blk_cell BK132.out 1).trans rfl, (blk_cell BK132.out 2).trans rfl, (blk_cell BK132.out 3).trans rfl, (blk_cell BK132.out 4).trans rfl, (blk_cell BK132.out 5).trans rfl, (blk_cell BK132.out 6).trans rfl, (blk_cell BK132.out 7).trans rfl⟩ (fun hHeld => ?_)
    clear hK K
    refine norm_ (a' := ?_) ?_ ?_
    rotate_left
    · show Act.put _ (some 8) _ = _
      simp only [Act.put, List.setIfInBounds_toArray, List.set_cons_zero, List.set_cons_succ, i64_w, i32_w]
      rfl
    refine pure_ (i := 4) (N := some 9) (v := ?_) (a' := ?_) #[true, true, true, true, true, false, false, false, false, false, false, false, false] rfl rfl (any_of HT_.out (by kernel_rfl)) (fun _ _ _ h => h) (Or.inl ⟨by rfl, ?_⟩) ?_ ?_
    rotate_left
    · intro w'
      go_simp
      with_reducible rfl
    rotate_left
    · simp only [Act.put, List.setIfInBounds_toArray, List.set_cons_zero, List.set_cons_succ, i64_w, i32_w]
      rfl
    refine pure_ (i := 5) (N := some 10) (v := ?_) (a' := ?_) #[true, true, true, true, true, true, false, false, false, false, false, false, false] rfl rfl (any_of HT_.out (by kernel_rfl)) (fun _ _ _ h => h) (Or.inl ⟨by rfl, ?_⟩) ?_ ?_
    rotate_left
    · intro w'
      go_simp
      with_reducible rfl
    rotate_left
    · simp only [Act.put, List.setIfInBounds_toArray, List.set_cons_zero, List.set_cons_succ, i64_w, i32_w]
      rfl
    refine pure_ (i := 6) (N := some 11) (v := undef) (a' := ?_) #[true, true, true, true, true, true, true, false, false, false, false, false, false] rfl rfl (any_of HT_.out (by kernel_rfl)) (fun _ _ _ h => h) (Or.inr ⟨by rfl, rfl⟩) ?_ ?_
    rotate_left
    · simp only [Act.put, List.setIfInBounds_toArray, List.set_cons_zero, List.set_cons_succ, i64_w, i32_w]
      rfl
    refine pure_ (i := 7) (N := some 12) (v := undef) (a' := ?_) #[true, true, true, true, true, true, true, true, false, false, false, false, false] rfl rfl (any_of HT_.out (by kernel_rfl)) (fun _ _ _ h => h) (Or.inr ⟨by rfl, rfl⟩) ?_ ?_
    rotate_left
    · simp only [Act.put, List.setIfInBounds_toArray, List.set_cons_zero, List.set_cons_succ, i64_w, i32_w]
      rfl
    refine pure_ (i := 8) (N := some 13) (v := undef) (a' := ?_) #[true, true, true, true, true, true, true, true, true, false, false, false, false] rfl rfl (any_of HT_.out (by kernel_rfl)) (fun _ _ _ h => h) (Or.inr ⟨by rfl, rfl⟩) ?_ ?_
    rotate_left
    · simp only [Act.put, List.setIfInBounds_toArray, List.set_cons_zero, List.set_cons_succ, i64_w, i32_w]
      rfl
    refine pure_ (i := 9) (N := some 14) (v := undef) (a' := ?_) #[true, true, true, true, true, true, true, true, true, true, false, false, false] rfl rfl (any_of HT_.out (by kernel_rfl)) (fun _ _ _ h => h) (Or.inr ⟨by rfl, rfl⟩) ?_ ?_
    rotate_left
    · simp only [Act.put, List.setIfInBounds_toArray, List.set_cons_zero, List.set_cons_succ, i64_w, i32_w]
      rfl
    refine pure_ (i := 10) (N := some 15) (v := undef) (a' := ?_) #[true, true, true, true, true, true, true, true, true, true, true, false, false] rfl rfl (any_of HT_.out (by kernel_rfl)) (fun _ _ _ h => h) (Or.inr ⟨by rfl, rfl⟩) ?_ ?_
    rotate_left
    · simp only [Act.put, List.setIfInBounds_toArray, List.set_cons_zero, List.set_cons_succ, i64_w, i32_w]
      rfl
    refine pure_ (i := 11) (N := some 16) (v := ?_) (a' := ?_) #[true, true, true, true, true, true, true, true, true, true, true, true, false] rfl rfl (any_of HT_.out (by kernel_rfl)) (fun _ _ _ h => h) (Or.inl ⟨by rfl, ?_⟩) ?_ ?_
    rotate_left
    · intro w'
      go_simp
      with_reducible rfl
    rotate_left
    · simp only [Act.put, List.setIfInBounds_toArray, List.set_cons_zero, List.set_cons_succ, i64_w, i32_w]
      rfl
    refine pure_ (i := 12) (N := some 4) (v := ?_) (a' := ?_) #[true, true, true, true, true, true, true, true, true, true, true, true, true] rfl rfl (any_of HT_.out (by kernel_rfl)) (fun _ _ _ h => h) (Or.inl ⟨by rfl, ?_⟩) ?_ ?_
    rotate_left
    · intro w'
      go_simp
      with_reducible rfl
    rotate_left
    · simp only [Act.put, List.setIfInBounds_toArray, List.set_cons_zero, List.set_cons_succ, i64_w, i32_w]
      rfl
    refine done_ (done_of HT_.out (by kernel_rfl)) ?_
    (try simp only [errW_none, errW_some])
    try go_wp2
    go_ret
    exact ⟨by first | rfl | (simp [errW_none, errW_some] <;> rfl) | (simp [*, errW_none, errW_some] <;> rfl), by repeat (first | (with_reducible first | exact HB.out | apply below_alloc | apply pw_below_drewN | apply below_drew1 | refine below_set ?_ GE131.out | refine below_set ?_ GE132.out) | exact HB.out)⟩

end Go.Proofs.YtfpbibfoipbahaaDoor.PWideReckons
