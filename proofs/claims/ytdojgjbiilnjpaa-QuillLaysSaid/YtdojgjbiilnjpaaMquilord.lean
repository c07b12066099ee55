import Derived.Test.YtdojgjbiilnjpaaMquils
import Derived.StillTailTactics
set_option linter.unusedVariables false
set_option linter.unusedSimpArgs false
namespace Go.Proofs.Ytdojgjbiilnjpaa.M
open Go.RowKit Go Go.Proofs.YtdojgjbiilnjpaaW.PrintWords Go.Proofs.YtdojgjbiilnjpaaW.PrintLast Go.Proofs.YtdojgjbiilnjpaaW.PrintMore
theorem any_all {P : Program} {ops : Array Oper} {Q : Exit → Act → World → Prop} {md : Region.Mode} {S : World → Prop} {ds : List Nat} (hds : (List.range ops.size).all (fun i => ds.contains i) = true) : ∀ {n : Nat} {l : Array Bool} {a : Act} {w : World}, wpAny P md ops Q n l a w → wpAnyLast P md ops Q S ds n l a w
  | 0, _, _, _, h => h
  | n + 1, l, a, w, h => ⟨h.1, fun i hi => wpOp_mono (fun a' w' h' => ⟨fun hn => absurd (by
      obtain ⟨_, oi, hoi, _⟩ := mem_ready.1 hi
      have hlt := (Array.getElem?_eq_some_iff.1 hoi).1
      have := List.all_eq_true.1 hds i (List.mem_range.2 hlt)
      simpa using this) hn, any_all hds h'⟩) (h.2 i hi)⟩
theorem conv_row {w : World} {v : Value} {l : List Int} (h : Bys w v l) : (convert 24 9 v).run Try.prog w = .ok (.string (strOfNums l)) w := by
  obtain ⟨A, c, rfl, hc, hC⟩ := h.slice
  exact Kd.C_string Try.underlying24 Try.underlying5 Try.underlying9 hC
set_option maxHeartbeats 8000000 in
set_option maxRecDepth 100000 in
theorem ord_r4 (ops : Array Oper) (hops : Try.f3.body.bind (findR 4) = some (ops, true)) (Q : Exit → Act → World → Prop) (w0 w : World) (gq gr gs : Nat) (xa xb xi : Int) (LX LY LZ : List Int) (X Y : ByteArray) {ds : _} {t3 t4 t5 t6 t10 t11 t12 t13 t14 t15 t16 t17 t18 t19 t20 t21 t22 t23 t24 t25 t26 t27 t28 t29 t30 t31 t32 t33 t34 t35 t36 t37 t38 t39 t40 t41 t42 t43 t44 t45 t46 t47 t48 t49 t50 t51 t52 t53 t54 t55 t56 t57 t58 t59 t60 t61 t62 t63 t64 t65 t66 t67 t68 t69 t70 t71 t72 t73 t74 t75 t76 t77 t78 : Value}
    (hQ : ∀ c a d v w, Q (.panic c) (Act.put a d v) w → Q (.panic c) a w) (ha : 0 ≤ xa ∧ xa ≤ 18446744073709551615) (hb : 0 ≤ xb ∧ xb ≤ 18446744073709551615) (hi : -9223372036854775808 ≤ xi ∧ xi ≤ 9223372036854775807)
    (HQq : Aside0 (Qu w gq (.slice none 0 0) [])) (HQr : Aside0 (Qu w gr (.slice none 0 0) [])) (HQs : Aside0 (Qu w gs (.slice none 0 0) [])) (HB : Aside0 (Below w0.heap.size w0 w)) (hgq : w0.heap.size ≤ gq) (hgr : w0.heap.size ≤ gr) (hgs : w0.heap.size ≤ gs) (nqr : gq ≠ gr) (nqs : gq ≠ gs) (nrs : gr ≠ gs)
    (ELX : Aside0 (nlay xa.toNat 0 = LX)) (ELY : Aside0 (nlay xb.toNat 0 = LY)) (ELZ : Aside0 (qint xi = LZ)) (LENLX : Aside0 (LX.length ≤ 100)) (LENLY : Aside0 (LY.length ≤ 100)) (LENLZ : Aside0 (LZ.length ≤ 100)) (EX : Aside0 (X = strOfNums LX)) (EY : Aside0 (Y = strOfNums LY))
    (H : ∀ (u15 u16 u17 u18 u19 u20 u21 u22 u23 u24 u25 v25 : Value) (w' : World), Bys w' v25 LZ → Below w0.heap.size w0 w' → Q .normal { tmps := (List.toArray (.int .u64 xa :: .int .u64 xb :: .int .i64 xi :: t3 :: t4 :: t5 :: t6 :: .pointer (some ⟨gq, 0, none⟩) :: .pointer (some ⟨gr, 0, none⟩) :: .pointer (some ⟨gs, 0, none⟩) :: .string X :: .string Y :: v25 :: t13 :: t14 :: u15 :: u16 :: u17 :: u18 :: u19 :: u20 :: u21 :: u22 :: u23 :: u24 :: u25 :: t26 :: t27 :: t28 :: t29 :: t30 :: t31 :: t32 :: t33 :: t34 :: t35 :: t36 :: t37 :: t38 :: t39 :: t40 :: t41 :: t42 :: t43 :: t44 :: t45 :: t46 :: t47 :: t48 :: t49 :: t50 :: t51 :: t52 :: t53 :: t54 :: t55 :: t56 :: t57 :: t58 :: t59 :: t60 :: t61 :: t62 :: t63 :: t64 :: t65 :: t66 :: t67 :: t68 :: t69 :: t70 :: t71 :: t72 :: t73 :: t74 :: t75 :: t76 :: t77 :: t78 :: [])), defers := ds } w') :
    Code.wp Try.prog (.region 4 ops true) Q { tmps := (List.toArray (.int .u64 xa :: .int .u64 xb :: .int .i64 xi :: t3 :: t4 :: t5 :: t6 :: .pointer (some ⟨gq, 0, none⟩) :: .pointer (some ⟨gr, 0, none⟩) :: .pointer (some ⟨gs, 0, none⟩) :: t10 :: t11 :: t12 :: t13 :: t14 :: t15 :: t16 :: t17 :: t18 :: t19 :: t20 :: t21 :: t22 :: t23 :: t24 :: t25 :: t26 :: t27 :: t28 :: t29 :: t30 :: t31 :: t32 :: t33 :: t34 :: t35 :: t36 :: t37 :: t38 :: t39 :: t40 :: t41 :: t42 :: t43 :: t44 :: t45 :: t46 :: t47 :: t48 :: t49 :: t50 :: t51 :: t52 :: t53 :: t54 :: t55 :: t56 :: t57 :: t58 :: t59 :: t60 :: t61 :: t62 :: t63 :: t64 :: t65 :: t66 :: t67 :: t68 :: t69 :: t70 :: t71 :: t72 :: t73 :: t74 :: t75 :: t76 :: t77 :: t78 :: [])), defers := ds } w := by
  simp [Try.f3, findR] at hops
  subst hops
  refine start_ (n := 14) (S := fun _ => True) (ds := [0, 1, 2, 3, 4, 5, 6, 7, 8, 9, 10, 11, 12, 13]) #[false, false, false, false, false, false, false, false, false, false, false, false, false, false] (by kernel_rfl) rfl rfl trivial (fun _ => ?_)
  refine pure_ (i := 0) (N := some 15) (v := ?_) (a' := ?_) #[true, false, false, false, false, false, false, false, false, false, false, false, false, false] rfl rfl (by kernel_rfl) (fun c a w h => hQ c _ _ _ w h) (Or.inl ⟨by rfl, ?_⟩) ?_ ?_
  rotate_left
  · intro w'
    go_simp
    with_reducible rfl
  rotate_left
  · simp only [Act.put, List.setIfInBounds_toArray, List.set_cons_zero, List.set_cons_succ, i64_w, i32_w]
    rfl
  refine pure_ (i := 4) (N := some 19) (v := ?_) (a' := ?_) #[true, false, false, false, true, false, false, false, false, false, false, false, false, false] rfl rfl (by kernel_rfl) (fun c a w h => hQ c _ _ _ w h) (Or.inl ⟨by rfl, ?_⟩) ?_ ?_
  rotate_left
  · intro w'
    go_simp
    with_reducible rfl
  rotate_left
  · simp only [Act.put, List.setIfInBounds_toArray, List.set_cons_zero, List.set_cons_succ, i64_w, i32_w]
    rfl
  refine pure_ (i := 8) (N := some 23) (v := ?_) (a' := ?_) #[true, false, false, false, true, false, false, false, true, false, false, false, false, false] rfl rfl (by kernel_rfl) (fun c a w h => hQ c _ _ _ w h) (Or.inl ⟨by rfl, ?_⟩) ?_ ?_
  rotate_left
  · intro w'
    go_simp
    with_reducible rfl
  rotate_left
  · simp only [Act.put, List.setIfInBounds_toArray, List.set_cons_zero, List.set_cons_succ, i64_w, i32_w]
    rfl
  have n_ := Aside0.mk (show Below w0.heap.size w0 w.drew from HB.out.drew)
  clear HB
  have HB := n_
  clear n_
  have n_ := Aside0.mk (HQq.out.below (below_drew (Below.refl _ w)))
  clear HQq
  have HQq := n_
  clear n_
  have n_ := Aside0.mk (HQr.out.below (below_drew (Below.refl _ w)))
  clear HQr
  have HQr := n_
  clear n_
  have n_ := Aside0.mk (HQs.out.below (below_drew (Below.refl _ w)))
  clear HQs
  have HQs := n_
  clear n_
  generalize w.drew = wd at HB HQq HQr HQs ⊢
  refine last_ (i := 1) (N := some 16) #[true, true, false, false, true, false, false, false, true, false, false, false, false, false] rfl rfl (by kernel_rfl) (by decide) (fun K hK => ?_)
  refine goes_ Try.func8 (by kernel_rfl) rfl #[.pointer (some ⟨gq, 0, none⟩), .int .u64 xa] (by rfl) rfl rfl (by simp only [List.map_toArray, List.map_cons, List.map_nil]; rfl) ?_
  refine (quill_Uint xa ha.1 ha.2 gq _ [] wd (by simp) HQq.out).mono ?_
  rintro e w1_wd ⟨rfl, hd⟩
  rw [List.nil_append, ELX.out] at hd
  obtain ⟨v1, hq_, hvb, hbb, hkq, hsi⟩ := QDone.law (w0 := w0) hd HB.out hgq (nil_own _)
  have n_ := Aside0.mk (HQr.out.farQ hkq HQq.out (Ne.symm nqr) (fun k e => by simp [Value.ownBlock] at e))
  clear HQr
  have HQr := n_
  clear n_
  have n_ := Aside0.mk (HQs.out.farQ hkq HQq.out (Ne.symm nqs) (fun k e => by simp [Value.ownBlock] at e))
  clear HQs
  have HQs := n_
  clear n_
  clear HQq
  have HQq := Aside0.mk hq_
  have n_ := Aside0.mk hbb
  clear HB
  have HB := n_
  clear n_ hd hq_ hvb hbb hkq hsi
  refine ⟨_, rfl, ?_⟩
  refine hK.out _ _ ?_
  clear hK K
  refine norm_ (by simp only [Act.put, List.setIfInBounds_toArray, List.set_cons_zero, List.set_cons_succ]; rfl) ?_
  refine last_ (i := 2) (N := some 17) #[true, true, true, false, true, false, false, false, true, false, false, false, false, false] rfl rfl (by kernel_rfl) (by decide) (fun K hK => ?_)
  refine goes_ Try.func9 (by kernel_rfl) rfl #[.pointer (some ⟨gq, 0, none⟩)] (by rfl) rfl rfl (by simp only [List.map_toArray, List.map_cons, List.map_nil]; rfl) ?_
  refine (quill_Done gq v1 LX w1_wd (by have := LENLX.out; omega) HQq.out).mono ?_
  rintro e w2_w1_wd ⟨v17, rfl, h1, h2, h3⟩
  have R17 := Aside0.mk h1
  have n_ := Aside0.mk (HQr.out.below h3)
  clear HQr
  have HQr := n_
  clear n_
  have n_ := Aside0.mk (HQs.out.below h3)
  clear HQs
  have HQs := n_
  clear n_
  clear HQq
  have n_ := Aside0.mk (below_step HB.out h3)
  clear HB
  have HB := n_
  clear n_ h1 h2 h3
  refine ⟨_, rfl, ?_⟩
  refine hK.out _ _ ?_
  clear hK K
  refine norm_ (by simp only [Act.put, List.setIfInBounds_toArray, List.set_cons_zero, List.set_cons_succ]; rfl) ?_
  refine any_all (by decide) (wpAny_of_last (S := fun w' => Bys w' v17 LX) (ds := []) _ _ _ _ ?_)
  refine take_ (i := 3) (N := some 18) (v := ?_) (a' := ?_) #[true, true, true, true, true, false, false, false, true, false, false, false, false, false] rfl rfl (by kernel_rfl) (fun c a w h => hQ c _ _ _ w h) (Or.inl ⟨by rfl, ?_⟩) R17.out ?_ ?_
  rotate_left
  · intro w' s0
    have hcv : (convert 24 9 v17).run Try.prog w' = .ok (.string X) w' := by rw [EX.out]; exact conv_row s0
    go_simp
    (try rw [hcv])
    with_reducible rfl
  rotate_left
  · simp only [Act.put, List.setIfInBounds_toArray, List.set_cons_zero, List.set_cons_succ, i64_w, i32_w]
    rfl
  refine one_ (i := 5) (N := some 20) #[true, true, true, true, true, true, false, false, true, false, false, false, false, false] rfl rfl (by kernel_rfl) (by decide) (fun K hK => ?_)
  refine goes_ Try.func8 (by kernel_rfl) rfl #[.pointer (some ⟨gr, 0, none⟩), .int .u64 xb] (by rfl) rfl rfl (by simp only [List.map_toArray, List.map_cons, List.map_nil]; rfl) ?_
  refine (quill_Uint xb hb.1 hb.2 gr _ [] w2_w1_wd (by simp) HQr.out).mono ?_
  rintro e w5_w2_w1_wd ⟨rfl, hd⟩
  rw [List.nil_append, ELY.out] at hd
  obtain ⟨v5, hq_, hvb, hbb, hkq, hsi⟩ := QDone.law (w0 := w0) hd HB.out hgr (nil_own _)
  have n_ := Aside0.mk (HQs.out.farQ hkq HQr.out (Ne.symm nrs) (fun k e => by simp [Value.ownBlock] at e))
  clear HQs
  have HQs := n_
  clear n_
  have n_ := Aside0.mk (R17.out.keepQ hkq HQr.out (fun k _ e => by simp [Value.ownBlock] at e))
  clear R17
  have R17 := n_
  clear n_
  clear HQr
  have HQr := Aside0.mk hq_
  have n_ := Aside0.mk hbb
  clear HB
  have HB := n_
  clear n_ hd hq_ hvb hbb hkq hsi
  refine ⟨_, rfl, ?_⟩
  refine hK.out _ _ R17.out (fun _ => ?_)
  clear hK K
  refine norm_ (by simp only [Act.put, List.setIfInBounds_toArray, List.set_cons_zero, List.set_cons_succ]; rfl) ?_
  refine one_ (i := 6) (N := some 21) #[true, true, true, true, true, true, true, false, true, false, false, false, false, false] rfl rfl (by kernel_rfl) (by decide) (fun K hK => ?_)
  refine goes_ Try.func9 (by kernel_rfl) rfl #[.pointer (some ⟨gr, 0, none⟩)] (by rfl) rfl rfl (by simp only [List.map_toArray, List.map_cons, List.map_nil]; rfl) ?_
  refine (quill_Done gr v5 LY w5_w2_w1_wd (by have := LENLY.out; omega) HQr.out).mono ?_
  rintro e w6_w5_w2_w1_wd ⟨v21, rfl, h1, h2, h3⟩
  have R21 := Aside0.mk h1
  have n_ := Aside0.mk (HQs.out.below h3)
  clear HQs
  have HQs := n_
  clear n_
  have n_ := Aside0.mk (R17.out.below h3)
  clear R17
  have R17 := n_
  clear n_
  clear HQr
  have n_ := Aside0.mk (below_step HB.out h3)
  clear HB
  have HB := n_
  clear n_ h1 h2 h3
  refine ⟨_, rfl, ?_⟩
  refine hK.out _ _ R17.out (fun _ => ?_)
  clear hK K
  refine norm_ (by simp only [Act.put, List.setIfInBounds_toArray, List.set_cons_zero, List.set_cons_succ]; rfl) ?_
  refine two_ (i := 7) (j := 9) (Ni := some 22) (Nj := some 24) #[true, true, true, true, true, true, true, true, true, false, false, false, false, false] #[true, true, true, true, true, true, true, false, true, true, false, false, false, false] rfl rfl rfl rfl (by kernel_rfl) (by decide) (by decide) (fun K hK => ?_) (fun K hK => ?_)
  · skip
    have hcv : (convert 24 9 v21).run Try.prog w6_w5_w2_w1_wd = .ok (.string Y) w6_w5_w2_w1_wd := by rw [EY.out]; exact conv_row R21.out
    refine value_ (v := .string Y) (w1 := w6_w5_w2_w1_wd) (by rfl) rfl ?_ ?_
    · go_simp
      (try (rw [hcv]; rfl))
    refine hK.out _ _ R17.out (fun _ => ?_)
    clear hK K hcv
    refine norm_ (by simp only [Act.put, List.setIfInBounds_toArray, List.set_cons_zero, List.set_cons_succ]; rfl) ?_
    refine one_ (i := 9) (N := some 24) #[true, true, true, true, true, true, true, true, true, true, false, false, false, false] rfl rfl (by kernel_rfl) (by decide) (fun K hK => ?_)
    refine goes_ Try.func10 (by kernel_rfl) rfl #[.pointer (some ⟨gs, 0, none⟩), .int .i64 xi] (by rfl) rfl rfl (by simp only [List.map_toArray, List.map_cons, List.map_nil]; rfl) ?_
    refine (quill_Int xi hi.1 hi.2 gs _ [] w6_w5_w2_w1_wd (by simp) HQs.out).mono ?_
    rintro e w9_w6_w5_w2_w1_wd ⟨rfl, hd⟩
    rw [List.nil_append, ELZ.out] at hd
    obtain ⟨v9, hq_, hvb, hbb, hkq, hsi⟩ := QDone.law (w0 := w0) hd HB.out hgs (nil_own _)
    have n_ := Aside0.mk (R17.out.keepQ hkq HQs.out (fun k _ e => by simp [Value.ownBlock] at e))
    clear R17
    have R17 := n_
    clear n_
    have n_ := Aside0.mk (R21.out.keepQ hkq HQs.out (fun k _ e => by simp [Value.ownBlock] at e))
    clear R21
    have R21 := n_
    clear n_
    clear HQs
    have HQs := Aside0.mk hq_
    have n_ := Aside0.mk hbb
    clear HB
    have HB := n_
    clear n_ hd hq_ hvb hbb hkq hsi
    refine ⟨_, rfl, ?_⟩
    refine hK.out _ _ R17.out (fun _ => ?_)
    clear hK K
    refine norm_ (by simp only [Act.put, List.setIfInBounds_toArray, List.set_cons_zero, List.set_cons_succ]; rfl) ?_
    refine one_ (i := 10) (N := some 25) #[true, true, true, true, true, true, true, true, true, true, true, false, false, false] rfl rfl (by kernel_rfl) (by decide) (fun K hK => ?_)
    refine goes_ Try.func9 (by kernel_rfl) rfl #[.pointer (some ⟨gs, 0, none⟩)] (by rfl) rfl rfl (by simp only [List.map_toArray, List.map_cons, List.map_nil]; rfl) ?_
    refine (quill_Done gs v9 LZ w9_w6_w5_w2_w1_wd (by have := LENLZ.out; omega) HQs.out).mono ?_
    rintro e w10_w9_w6_w5_w2_w1_wd ⟨v25, rfl, h1, h2, h3⟩
    have R25 := Aside0.mk h1
    have n_ := Aside0.mk (R17.out.below h3)
    clear R17
    have R17 := n_
    clear n_
    have n_ := Aside0.mk (R21.out.below h3)
    clear R21
    have R21 := n_
    clear n_
    clear HQs
    have n_ := Aside0.mk (below_step HB.out h3)
    clear HB
    have HB := n_
    clear n_ h1 h2 h3
    refine ⟨_, rfl, ?_⟩
    refine hK.out _ _ R17.out (fun _ => ?_)
    clear hK K
    refine norm_ (by simp only [Act.put, List.setIfInBounds_toArray, List.set_cons_zero, List.set_cons_succ]; rfl) ?_
    refine pure_ (i := 11) (N := some 10) (v := ?_) (a' := ?_) #[true, true, true, true, true, true, true, true, true, true, true, true, false, false] rfl rfl (by kernel_rfl) (fun c a w h => hQ c _ _ _ w h) (Or.inl ⟨by rfl, ?_⟩) ?_ ?_
    rotate_left
    · intro w'
      go_simp
      with_reducible rfl
    rotate_left
    · simp only [Act.put, List.setIfInBounds_toArray, List.set_cons_zero, List.set_cons_succ, i64_w, i32_w]
      rfl
    refine pure_ (i := 12) (N := some 11) (v := ?_) (a' := ?_) #[true, true, true, true, true, true, true, true, true, true, true, true, true, false] rfl rfl (by kernel_rfl) (fun c a w h => hQ c _ _ _ w h) (Or.inl ⟨by rfl, ?_⟩) ?_ ?_
    rotate_left
    · intro w'
      go_simp
      with_reducible rfl
    rotate_left
    · simp only [Act.put, List.setIfInBounds_toArray, List.set_cons_zero, List.set_cons_succ, i64_w, i32_w]
      rfl
    refine pure_ (i := 13) (N := some 12) (v := ?_) (a' := ?_) #[true, true, true, true, true, true, true, true, true, true, true, true, true, true] rfl rfl (by kernel_rfl) (fun c a w h => hQ c _ _ _ w h) (Or.inl ⟨by rfl, ?_⟩) ?_ ?_
    rotate_left
    · intro w'
      go_simp
      with_reducible rfl
    rotate_left
    · simp only [Act.put, List.setIfInBounds_toArray, List.set_cons_zero, List.set_cons_succ, i64_w, i32_w]
      rfl
    refine done_ (by kernel_rfl) ?_
    exact H _ _ _ _ _ _ _ _ _ _ _ v25 w10_w9_w6_w5_w2_w1_wd R25.out HB.out
  · skip
    refine goes_ Try.func10 (by kernel_rfl) rfl #[.pointer (some ⟨gs, 0, none⟩), .int .i64 xi] (by rfl) rfl rfl (by simp only [List.map_toArray, List.map_cons, List.map_nil]; rfl) ?_
    refine (quill_Int xi hi.1 hi.2 gs _ [] w6_w5_w2_w1_wd (by simp) HQs.out).mono ?_
    rintro e w9_w6_w5_w2_w1_wd ⟨rfl, hd⟩
    rw [List.nil_append, ELZ.out] at hd
    obtain ⟨v9, hq_, hvb, hbb, hkq, hsi⟩ := QDone.law (w0 := w0) hd HB.out hgs (nil_own _)
    have n_ := Aside0.mk (R17.out.keepQ hkq HQs.out (fun k _ e => by simp [Value.ownBlock] at e))
    clear R17
    have R17 := n_
    clear n_
    have n_ := Aside0.mk (R21.out.keepQ hkq HQs.out (fun k _ e => by simp [Value.ownBlock] at e))
    clear R21
    have R21 := n_
    clear n_
    clear HQs
    have HQs := Aside0.mk hq_
    have n_ := Aside0.mk hbb
    clear HB
    have HB := n_
    clear n_ hd hq_ hvb hbb hkq hsi
    refine ⟨_, rfl, ?_⟩
    refine hK.out _ _ R17.out (fun _ => ?_)
    clear hK K
    refine norm_ (by simp only [Act.put, List.setIfInBounds_toArray, List.set_cons_zero, List.set_cons_succ]; rfl) ?_
    refine two_ (i := 7) (j := 10) (Ni := some 22) (Nj := some 25) #[true, true, true, true, true, true, true, true, true, true, false, false, false, false] #[true, true, true, true, true, true, true, false, true, true, true, false, false, false] rfl rfl rfl rfl (by kernel_rfl) (by decide) (by decide) (fun K hK => ?_) (fun K hK => ?_)
    · skip
      have hcv : (convert 24 9 v21).run Try.prog w9_w6_w5_w2_w1_wd = .ok (.string Y) w9_w6_w5_w2_w1_wd := by rw [EY.out]; exact conv_row R21.out
      refine value_ (v := .string Y) (w1 := w9_w6_w5_w2_w1_wd) (by rfl) rfl ?_ ?_
      · go_simp
        (try (rw [hcv]; rfl))
      refine hK.out _ _ R17.out (fun _ => ?_)
      clear hK K hcv
      refine norm_ (by simp only [Act.put, List.setIfInBounds_toArray, List.set_cons_zero, List.set_cons_succ]; rfl) ?_
      refine one_ (i := 10) (N := some 25) #[true, true, true, true, true, true, true, true, true, true, true, false, false, false] rfl rfl (by kernel_rfl) (by decide) (fun K hK => ?_)
      refine goes_ Try.func9 (by kernel_rfl) rfl #[.pointer (some ⟨gs, 0, none⟩)] (by rfl) rfl rfl (by simp only [List.map_toArray, List.map_cons, List.map_nil]; rfl) ?_
      refine (quill_Done gs v9 LZ w9_w6_w5_w2_w1_wd (by have := LENLZ.out; omega) HQs.out).mono ?_
      rintro e w10_w9_w6_w5_w2_w1_wd ⟨v25, rfl, h1, h2, h3⟩
      have R25 := Aside0.mk h1
      have n_ := Aside0.mk (R17.out.below h3)
      clear R17
      have R17 := n_
      clear n_
      have n_ := Aside0.mk (R21.out.below h3)
      clear R21
      have R21 := n_
      clear n_
      clear HQs
      have n_ := Aside0.mk (below_step HB.out h3)
      clear HB
      have HB := n_
      clear n_ h1 h2 h3
      refine ⟨_, rfl, ?_⟩
      refine hK.out _ _ R17.out (fun _ => ?_)
      clear hK K
      refine norm_ (by simp only [Act.put, List.setIfInBounds_toArray, List.set_cons_zero, List.set_cons_succ]; rfl) ?_
      refine pure_ (i := 11) (N := some 10) (v := ?_) (a' := ?_) #[true, true, true, true, true, true, true, true, true, true, true, true, false, false] rfl rfl (by kernel_rfl) (fun c a w h => hQ c _ _ _ w h) (Or.inl ⟨by rfl, ?_⟩) ?_ ?_
      rotate_left
      · intro w'
        go_simp
        with_reducible rfl
      rotate_left
      · simp only [Act.put, List.setIfInBounds_toArray, List.set_cons_zero, List.set_cons_succ, i64_w, i32_w]
        rfl
      refine pure_ (i := 12) (N := some 11) (v := ?_) (a' := ?_) #[true, true, true, true, true, true, true, true, true, true, true, true, true, false] rfl rfl (by kernel_rfl) (fun c a w h => hQ c _ _ _ w h) (Or.inl ⟨by rfl, ?_⟩) ?_ ?_
      rotate_left
      · intro w'
        go_simp
        with_reducible rfl
      rotate_left
      · simp only [Act.put, List.setIfInBounds_toArray, List.set_cons_zero, List.set_cons_succ, i64_w, i32_w]
        rfl
      refine pure_ (i := 13) (N := some 12) (v := ?_) (a' := ?_) #[true, true, true, true, true, true, true, true, true, true, true, true, true, true] rfl rfl (by kernel_rfl) (fun c a w h => hQ c _ _ _ w h) (Or.inl ⟨by rfl, ?_⟩) ?_ ?_
      rotate_left
      · intro w'
        go_simp
        with_reducible rfl
      rotate_left
      · simp only [Act.put, List.setIfInBounds_toArray, List.set_cons_zero, List.set_cons_succ, i64_w, i32_w]
        rfl
      refine done_ (by kernel_rfl) ?_
      exact H _ _ _ _ _ _ _ _ _ _ _ v25 w10_w9_w6_w5_w2_w1_wd R25.out HB.out
    · skip
      refine goes_ Try.func9 (by kernel_rfl) rfl #[.pointer (some ⟨gs, 0, none⟩)] (by rfl) rfl rfl (by simp only [List.map_toArray, List.map_cons, List.map_nil]; rfl) ?_
      refine (quill_Done gs v9 LZ w9_w6_w5_w2_w1_wd (by have := LENLZ.out; omega) HQs.out).mono ?_
      rintro e w10_w9_w6_w5_w2_w1_wd ⟨v25, rfl, h1, h2, h3⟩
      have R25 := Aside0.mk h1
      have n_ := Aside0.mk (R17.out.below h3)
      clear R17
      have R17 := n_
      clear n_
      have n_ := Aside0.mk (R21.out.below h3)
      clear R21
      have R21 := n_
      clear n_
      clear HQs
      have n_ := Aside0.mk (below_step HB.out h3)
      clear HB
      have HB := n_
      clear n_ h1 h2 h3
      refine ⟨_, rfl, ?_⟩
      refine hK.out _ _ R17.out (fun _ => ?_)
      clear hK K
      refine norm_ (by simp only [Act.put, List.setIfInBounds_toArray, List.set_cons_zero, List.set_cons_succ]; rfl) ?_
      refine pure_ (i := 11) (N := some 10) (v := ?_) (a' := ?_) #[true, true, true, true, true, true, true, false, true, true, true, true, false, false] rfl rfl (by kernel_rfl) (fun c a w h => hQ c _ _ _ w h) (Or.inl ⟨by rfl, ?_⟩) ?_ ?_
      rotate_left
      · intro w'
        go_simp
        with_reducible rfl
      rotate_left
      · simp only [Act.put, List.setIfInBounds_toArray, List.set_cons_zero, List.set_cons_succ, i64_w, i32_w]
        rfl
      refine one_ (i := 7) (N := some 22) #[true, true, true, true, true, true, true, true, true, true, true, true, false, false] rfl rfl (by kernel_rfl) (by decide) (fun K hK => ?_)
      have hcv : (convert 24 9 v21).run Try.prog w10_w9_w6_w5_w2_w1_wd = .ok (.string Y) w10_w9_w6_w5_w2_w1_wd := by rw [EY.out]; exact conv_row R21.out
      refine value_ (v := .string Y) (w1 := w10_w9_w6_w5_w2_w1_wd) (by rfl) rfl ?_ ?_
      · go_simp
        (try (rw [hcv]; rfl))
      refine hK.out _ _ R17.out (fun _ => ?_)
      clear hK K hcv
      refine norm_ (by simp only [Act.put, List.setIfInBounds_toArray, List.set_cons_zero, List.set_cons_succ]; rfl) ?_
      refine pure_ (i := 12) (N := some 11) (v := ?_) (a' := ?_) #[true, true, true, true, true, true, true, true, true, true, true, true, true, false] rfl rfl (by kernel_rfl) (fun c a w h => hQ c _ _ _ w h) (Or.inl ⟨by rfl, ?_⟩) ?_ ?_
      rotate_left
      · intro w'
        go_simp
        with_reducible rfl
      rotate_left
      · simp only [Act.put, List.setIfInBounds_toArray, List.set_cons_zero, List.set_cons_succ, i64_w, i32_w]
        rfl
      refine pure_ (i := 13) (N := some 12) (v := ?_) (a' := ?_) #[true, true, true, true, true, true, true, true, true, true, true, true, true, true] rfl rfl (by kernel_rfl) (fun c a w h => hQ c _ _ _ w h) (Or.inl ⟨by rfl, ?_⟩) ?_ ?_
      rotate_left
      · intro w'
        go_simp
        with_reducible rfl
      rotate_left
      · simp only [Act.put, List.setIfInBounds_toArray, List.set_cons_zero, List.set_cons_succ, i64_w, i32_w]
        rfl
      refine done_ (by kernel_rfl) ?_
      exact H _ _ _ _ _ _ _ _ _ _ _ v25 w10_w9_w6_w5_w2_w1_wd R25.out HB.out

theorem bytesOf_str8 {l : List Int} (hr : l.all (fun x => decide (0 ≤ x ∧ x ≤ 255)) = true) : bytesOf (strOfNums l) = l := by
  rw [bytesOf, strOfNums_data, List.map_map]
  conv => rhs; rw [← List.map_id l]
  refine List.map_congr_left fun x hx => ?_
  have := of_decide_eq_true (List.all_eq_true.1 hr x hx)
  simp only [Function.comp_apply, id_eq, UInt8.toNat_ofNat']
  omega
theorem all_rng {l : List Int} (hr : l.all (fun x => decide (0 ≤ x ∧ x ≤ 255)) = true) : ∀ x ∈ l, 0 ≤ x ∧ x ≤ 255 := fun x hx => of_decide_eq_true (List.all_eq_true.1 hr x hx)

end Go.Proofs.Ytdojgjbiilnjpaa.M
