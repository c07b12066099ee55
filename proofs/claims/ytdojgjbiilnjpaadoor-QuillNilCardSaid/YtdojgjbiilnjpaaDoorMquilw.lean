import Derived.Test.YtdojgjbiilnjpaaDoorMquilbase
import Derived.Test.YtdojgjbiilnjpaaDoorMshelf
import Derived.Lib.ItoaNum
set_option linter.unusedVariables false
set_option linter.unusedSimpArgs false
namespace Go.Proofs.YtdojgjbiilnjpaaDoor.M
open Go.RowKit Go.Proofs.YtdojgjbiilnjpaaDoorW.PrintWords Go.Proofs.YtdojgjbiilnjpaaDoorW.PrintLast Go.Proofs.YtdojgjbiilnjpaaDoorW.PrintMore
/-- How many bytes a number has. -/
def nsz (n : Nat) : Nat := (Go.Lib.bitLen n + 7) / 8
/-- Its bytes from place j - 1 down. -/
def nby (n : Nat) : Nat → List Int
  | 0 => []
  | j + 1 => ((n / 2 ^ (8 * j) % 256 : Nat) : Int) :: nby n j
def nlay (n mark : Nat) : List Int := ((mark + nsz n : Nat) : Int) :: nby n (nsz n)
set_option maxHeartbeats 4000000 in
set_option maxRecDepth 100000 in
theorem quw_r8 (ops : Array Oper) (hops : Tryd.f29.body.bind (findR 8) = some (ops, true)) (Q : Exit → Act → World → Prop) (w : World) (g n i : Nat) (nn ii : Int) (HN : Aside0 (nn = (n : Nat))) (HI : Aside0 (ii = (i : Nat))) (v : Value) (l : List Int) (B : Int) (HBB : Aside0 (B = ((n / 2 ^ (8 * i) % 256 : Nat) : Int))) {ds : _} {t2 t3 t4 t5 t6 t7 t9 t10 t11 t12 t13 t14 t15 t16 t17 t18 t19 t20 t21 t22 t23 t24 t25 t26 t27 t28 t29 t30 t31 t32 t33 t34 t35 t36 t37 t38 t39 t40 t41 t42 t43 t44 t45 t46 t47 t48 t49 : Value}
    (hQ : ∀ c a d v w, Q (.panic c) (Act.put a d v) w → Q (.panic c) a w) (hq : Qu w g v l) (hi : i < 8) (hn : n < 18446744073709551616) (hl : l.length ≤ 1000010)
    (H : ∀ (u35 u36 u37 u38 u39 u40 u41 u42 u43 u44 u45 u46 u47 u48 : Value) (v1 : Value) (w1 : World), Qu w1 g v1 (l ++ [B]) → KeepQ w w1 g v.ownBlock → Since w v v1 → Q .normal { tmps := (List.toArray (Value.pointer (some ⟨g, 0, none⟩) :: Value.int IntKind.u64 nn :: t2 :: t3 :: t4 :: t5 :: t6 :: t7 :: Value.int IntKind.i64 ii :: t9 :: t10 :: t11 :: t12 :: t13 :: t14 :: t15 :: t16 :: t17 :: t18 :: t19 :: t20 :: t21 :: t22 :: t23 :: t24 :: t25 :: t26 :: t27 :: t28 :: t29 :: t30 :: t31 :: t32 :: t33 :: t34 :: u35 :: u36 :: u37 :: u38 :: u39 :: u40 :: u41 :: u42 :: u43 :: u44 :: u45 :: u46 :: u47 :: u48 :: t49 :: [])), defers := ds } w1) :
    Code.wp Tryd.prog (.region 8 ops true) Q { tmps := (List.toArray (Value.pointer (some ⟨g, 0, none⟩) :: Value.int IntKind.u64 nn :: t2 :: t3 :: t4 :: t5 :: t6 :: t7 :: Value.int IntKind.i64 ii :: t9 :: t10 :: t11 :: t12 :: t13 :: t14 :: t15 :: t16 :: t17 :: t18 :: t19 :: t20 :: t21 :: t22 :: t23 :: t24 :: t25 :: t26 :: t27 :: t28 :: t29 :: t30 :: t31 :: t32 :: t33 :: t34 :: t35 :: t36 :: t37 :: t38 :: t39 :: t40 :: t41 :: t42 :: t43 :: t44 :: t45 :: t46 :: t47 :: t48 :: t49 :: [])), defers := ds } w := by
  have hc : w.cell? ⟨g, 0, none⟩ = some v := blk_cell hq.blk 0
  have hii := HI.out
  have hnn := HN.out
  have hB := HBB.out
  have e1 : wrap64 (8 * ii) = 8 * ii := by unfold wrap64; omega
  have c1 : 0 ≤ 8 * ii := by omega
  have c2 : 8 * ii ≤ 64 := by omega
  have e2 : IntKind.u8.wrap (nn / 2 ^ (8 * i)) = B := by rw [hnn, hB, IntKind.wrap_u8, Int.natCast_emod, Int.natCast_ediv, Int.natCast_pow]; rfl
  have e3 : (8 * ii).toNat = 8 * i := by omega
  clear hii hnn hB
  simp [Tryd.f29, findR] at hops
  subst hops
  refine start_ (n := 15) (S := fun w' => w'.cell? ⟨g, 0, none⟩ = some v) (ds := [11, 14]) #[false, false, false, false, false, false, false, false, false, false, false, false, false, false, false] (by kernel_rfl) rfl rfl hc (fun hHeld => ?_)
  refine pure_ (i := 0) (N := some 35) (v := ?_) (a' := ?_) #[true, false, false, false, false, false, false, false, false, false, false, false, false, false, false] rfl rfl (by kernel_rfl) (fun c a w h => hQ c _ _ _ w h) (Or.inl ⟨by rfl, ?_⟩) ?_ ?_
  rotate_left
  · intro w'
    go_simp
    (try simp only [e1, e2, e3, if_true, if_false, if_pos trivial])
    with_reducible rfl
  rotate_left
  · simp only [Act.put, List.setIfInBounds_toArray, List.set_cons_zero, List.set_cons_succ, i64_w, i32_w, e1, e2, e3]
    rfl
  refine pure_ (i := 1) (N := some 36) (v := ?_) (a' := ?_) #[true, true, false, false, false, false, false, false, false, false, false, false, false, false, false] rfl rfl (by kernel_rfl) (fun c a w h => hQ c _ _ _ w h) (Or.inl ⟨by rfl, ?_⟩) ?_ ?_
  rotate_left
  · intro w'
    go_simp
    (try simp only [e1, e2, e3, if_true, if_false, if_pos trivial])
    with_reducible rfl
  rotate_left
  · simp only [Act.put, List.setIfInBounds_toArray, List.set_cons_zero, List.set_cons_succ, i64_w, i32_w, e1, e2, e3]
    rfl
  refine pure_ (i := 2) (N := some 37) (v := ?_) (a' := ?_) #[true, true, true, false, false, false, false, false, false, false, false, false, false, false, false] rfl rfl (by kernel_rfl) (fun c a w h => hQ c _ _ _ w h) (Or.inl ⟨by rfl, ?_⟩) ?_ ?_
  rotate_left
  · intro w'
    go_simp
    (try simp only [e1, e2, e3, if_true, if_false, if_pos trivial])
    with_reducible rfl
  rotate_left
  · simp only [Act.put, List.setIfInBounds_toArray, List.set_cons_zero, List.set_cons_succ, i64_w, i32_w, e1, e2, e3]
    rfl
  refine pure_ (i := 3) (N := some 38) (v := ?_) (a' := ?_) #[true, true, true, true, false, false, false, false, false, false, false, false, false, false, false] rfl rfl (by kernel_rfl) (fun c a w h => hQ c _ _ _ w h) (Or.inl ⟨by rfl, ?_⟩) ?_ ?_
  rotate_left
  · intro w'
    go_simp
    (try simp only [e1, e2, e3, if_true, if_false, if_pos trivial])
    with_reducible rfl
  rotate_left
  · simp only [Act.put, List.setIfInBounds_toArray, List.set_cons_zero, List.set_cons_succ, i64_w, i32_w, e1, e2, e3]
    rfl
  refine pure_ (i := 5) (N := some 40) (v := ?_) (a' := ?_) #[true, true, true, true, false, true, false, false, false, false, false, false, false, false, false] rfl rfl (by kernel_rfl) (fun c a w h => hQ c _ _ _ w h) (Or.inl ⟨by rfl, ?_⟩) ?_ ?_
  rotate_left
  · intro w'
    go_simp
    (try simp only [e1, e2, e3, if_true, if_false, if_pos trivial])
    with_reducible rfl
  rotate_left
  · simp only [Act.put, List.setIfInBounds_toArray, List.set_cons_zero, List.set_cons_succ, i64_w, i32_w, e1, e2, e3]
    rfl
  refine pure_ (i := 6) (N := some 41) (v := ?_) (a' := ?_) #[true, true, true, true, false, true, true, false, false, false, false, false, false, false, false] rfl rfl (by kernel_rfl) (fun c a w h => hQ c _ _ _ w h) (Or.inl ⟨by rfl, ?_⟩) ?_ ?_
  rotate_left
  · intro w'
    go_simp
    (try simp only [e1, e2, e3, if_true, if_false, if_pos trivial])
    with_reducible rfl
  rotate_left
  · simp only [Act.put, List.setIfInBounds_toArray, List.set_cons_zero, List.set_cons_succ, i64_w, i32_w, e1, e2, e3]
    rfl
  refine pure_ (i := 7) (N := some 42) (v := ?_) (a' := ?_) #[true, true, true, true, false, true, true, true, false, false, false, false, false, false, false] rfl rfl (by kernel_rfl) (fun c a w h => hQ c _ _ _ w h) (Or.inl ⟨by rfl, ?_⟩) ?_ ?_
  rotate_left
  · intro w'
    go_simp
    (try simp only [e1, e2, e3, if_true, if_false, if_pos trivial])
    with_reducible rfl
  rotate_left
  · simp only [Act.put, List.setIfInBounds_toArray, List.set_cons_zero, List.set_cons_succ, i64_w, i32_w, e1, e2, e3]
    rfl
  refine pure_ (i := 8) (N := some 43) (v := ?_) (a' := ?_) #[true, true, true, true, false, true, true, true, true, false, false, false, false, false, false] rfl rfl (by kernel_rfl) (fun c a w h => hQ c _ _ _ w h) (Or.inl ⟨by rfl, ?_⟩) ?_ ?_
  rotate_left
  · intro w'
    go_simp
    (try simp only [e1, e2, e3, if_true, if_false, if_pos trivial])
    with_reducible rfl
  rotate_left
  · simp only [Act.put, List.setIfInBounds_toArray, List.set_cons_zero, List.set_cons_succ, i64_w, i32_w, e1, e2, e3]
    rfl
  refine pure_ (i := 9) (N := some 44) (v := ?_) (a' := ?_) #[true, true, true, true, false, true, true, true, true, true, false, false, false, false, false] rfl rfl (by kernel_rfl) (fun c a w h => hQ c _ _ _ w h) (Or.inl ⟨by rfl, ?_⟩) ?_ ?_
  rotate_left
  · intro w'
    go_simp
    (try simp only [e1, e2, e3, if_true, if_false, if_pos trivial])
    with_reducible rfl
  rotate_left
  · simp only [Act.put, List.setIfInBounds_toArray, List.set_cons_zero, List.set_cons_succ, i64_w, i32_w, e1, e2, e3]
    rfl
  refine take_ (i := 4) (N := some 39) (v := ?_) (a' := ?_) #[true, true, true, true, true, true, true, true, true, true, false, false, false, false, false] rfl rfl (by kernel_rfl) (fun c a w h => hQ c _ _ _ w h) (Or.inl ⟨by rfl, ?_⟩) hHeld ?_ ?_
  rotate_left
  · intro w' s0
    go_simp
    (try simp only [s0, e1, e2, e3, if_true, if_false, if_pos trivial])
    with_reducible rfl
  rotate_left
  · simp only [Act.put, List.setIfInBounds_toArray, List.set_cons_zero, List.set_cons_succ, i64_w, i32_w, e1, e2, e3]
    rfl
  refine one_ (i := 10) (N := some 45) #[true, true, true, true, true, true, true, true, true, true, true, false, false, false, false] rfl rfl (by kernel_rfl) (by decide) (fun K hK => ?_)
  refine value_ (v := .slice (some ⟨w.heap.size, 0, none⟩) 1 1) (w1 := (w.drew).alloc (.cells [Value.int .u8 B].toArray 5 (0, 0))) (by rfl) rfl ?_ ?_
  · go_simp
  refine hK.out _ _ (blk_cell (blk_alloc hq.blk _) 0) (fun _ => ?_)
  clear hK K
  refine norm_ (by simp only [Act.put, List.setIfInBounds_toArray, List.set_cons_zero, List.set_cons_succ]; rfl) ?_
  refine last_ (i := 11) (N := some 46) #[true, true, true, true, true, true, true, true, true, true, true, true, false, false, false] rfl rfl (by kernel_rfl) (by decide) (fun K hK => ?_)
  refine step_append_cells (w0 := w) (W := w.drew) 0 (by rfl) (.tmp 39) (.tmp 45) 22 5 (.int .u8 0) 1 1 rfl Tryd.underlying22 byt_info rfl (by decide) (by decide) v l.length (nums .u8 l) [.int .u8 B] rfl rfl rfl (by intro u hu; rw [List.mem_singleton.1 hu]; rfl) hq.row ⟨rfl, rfl, rfl, Nat.le_refl _, fun _ _ => rfl⟩ (Nat.zero_le _) (by omega) ?_
  intro v1 w1 hown hb0 hg hat
  refine hK.out _ _ ?_
  clear hK K
  refine norm_ (by simp only [Act.put, List.setIfInBounds_toArray, List.set_cons_zero, List.set_cons_succ]; rfl) ?_
  have hrow : Bys w1 v1 (l ++ [B]) := by
    unfold Bys
    rw [nums_append, List.length_append]
    exact hown
  obtain ⟨A1, cc1, ev1, _, _⟩ := hrow.slice
  generalize (l ++ [B]).length = n1 at ev1
  subst ev1
  have hblk : w1.heap[g]? = some (.cells #[v] 53 (0, 0)) := (hg.block g (blk_lt hq.blk) (hq.ne hq.row)).trans hq.blk
  have hf1 : w1.frozen? ⟨g, 0, none⟩ = false := blk_frozen hblk 0
  have hc1 : w1.cell? ⟨g, 0, none⟩ = some v := blk_cell hblk 0
  refine pure_ (i := 12) (N := some 47) (v := ?_) (a' := ?_) #[true, true, true, true, true, true, true, true, true, true, true, true, true, false, false] rfl rfl (by kernel_rfl) (fun c a w h => hQ c _ _ _ w h) (Or.inl ⟨by rfl, ?_⟩) ?_ ?_
  rotate_left
  · intro w'
    go_simp
    (try simp only [e1, e2, e3, if_true, if_false, if_pos trivial])
    with_reducible rfl
  rotate_left
  · simp only [Act.put, List.setIfInBounds_toArray, List.set_cons_zero, List.set_cons_succ, i64_w, i32_w, e1, e2, e3]
    rfl
  refine pure_ (i := 13) (N := some 48) (v := ?_) (a' := ?_) #[true, true, true, true, true, true, true, true, true, true, true, true, true, true, false] rfl rfl (by kernel_rfl) (fun c a w h => hQ c _ _ _ w h) (Or.inl ⟨by rfl, ?_⟩) ?_ ?_
  rotate_left
  · intro w'
    go_simp
    (try simp only [e1, e2, e3, if_true, if_false, if_pos trivial])
    with_reducible rfl
  rotate_left
  · simp only [Act.put, List.setIfInBounds_toArray, List.set_cons_zero, List.set_cons_succ, i64_w, i32_w, e1, e2, e3]
    rfl
  refine last_ (i := 14) (N := none) #[true, true, true, true, true, true, true, true, true, true, true, true, true, true, true] rfl rfl (by kernel_rfl) (by decide) (fun K hK => ?_)
  refine skip_ (w1 := ?_) (by rfl) rfl ?_ ?_
  rotate_left
  · go_simp
    (try simp only [hf1, hc1, Bool.false_eq_true, if_false])
    rfl
  refine hK.out _ _ ?_
  clear hK K
  refine done_ (by kernel_rfl) ?_
  refine H _ _ _ _ _ _ _ _ _ _ _ _ _ _ _ _ ⟨blk_put hblk 0 _ rfl, ?_⟩ ?_ ?_
  · exact hrow.move fun k hk => Below.heap_setCell _ _ _ _ (fun e => by subst e; exact hq1 hrow hblk hk)
  · exact ((KeepQ.refl w g v.ownBlock).grown (World.grownBy.trans (⟨rfl, rfl, rfl, Nat.le_refl _, fun _ _ _ => rfl⟩ : w.grownBy w.drew v.ownBlock) hg) (.inl rfl)).set _ _
  · exact hat

theorem nsz_le (n : Nat) (hn : n < 18446744073709551616) : nsz n ≤ 8 := by
  unfold nsz
  have : Go.Lib.bitLen n ≤ 64 := Go.Lib.bitLen_le n 64 (Nat.le_refl _) (by omega)
  omega
theorem nby_len (n : Nat) : ∀ j, (nby n j).length = j
  | 0 => rfl
  | j + 1 => by simp [nby, nby_len n j]
/-- The bytes from the top place down to place j. -/
def ntop (n s : Nat) : Nat → List Int
  | 0 => []
  | k + 1 => ntop n s k ++ [((n / 2 ^ (8 * (s - 1 - k)) % 256 : Nat) : Int)]
theorem ntop_nby (n s : Nat) : ∀ k, k ≤ s → ntop n s k ++ nby n (s - k) = nby n s
  | 0, _ => by simp [ntop]
  | k + 1, h => by
    rw [← ntop_nby n s k (by omega), ntop, List.append_assoc]
    congr 1
    obtain ⟨d, hd⟩ : ∃ d, s - k = d + 1 := ⟨s - k - 1, by omega⟩
    rw [hd, nby, show s - 1 - k = d by omega, show s - (k + 1) = d by omega]
    rfl
theorem ntop_all (n s : Nat) : ntop n s s = nby n s := by
  have := ntop_nby n s s (Nat.le_refl _)
  rw [Nat.sub_self] at this
  simpa [nby] using this
theorem ntop_len (n s : Nat) : ∀ k, (ntop n s k).length = k
  | 0 => rfl
  | k + 1 => by simp [ntop, ntop_len n s k]
set_option maxHeartbeats 4000000 in
set_option maxRecDepth 100000 in
theorem quill_number_nil (n mark : Int) (w : World) : Calls Tryd.prog 29 #[.pointer none, .int .u64 n, .int .u8 mark] w fun e w' => e = .returned (.pointer none) ∧ w = w' := by
  go_enter Tryd.func29, Tryd.ntmps29
  go_wp2
  go_ret
  exact ⟨rfl, rfl⟩
set_option maxHeartbeats 4000000 in
set_option maxRecDepth 100000 in
theorem quill_number (n mark g : Nat) (v : Value) (l : List Int) (w : World) (hn : n < 18446744073709551616) (hm : mark ≤ 128) (hl : l.length ≤ 1000000) (hq : Qu w g v l) :
    Calls Tryd.prog 29 #[.pointer (some ⟨g, 0, none⟩), .int .u64 (n : Nat), .int .u8 (mark : Nat)] w fun e w' => e = .returned (.pointer (some ⟨g, 0, none⟩)) ∧ ∃ v', Qu w' g v' (l ++ nlay n mark) ∧ KeepQ w w' g v.ownBlock ∧ Since w v v' := by
  obtain ⟨nn, hnn⟩ : ∃ z : Int, z = (n : Nat) := ⟨_, rfl⟩
  obtain ⟨mm, hmm⟩ : ∃ z : Int, z = (mark : Nat) := ⟨_, rfl⟩
  obtain ⟨ss, hss⟩ : ∃ z : Int, z = (nsz n : Nat) := ⟨_, rfl⟩
  obtain ⟨bl, hbl⟩ : ∃ z : Int, z = (Go.Lib.bitLen n : Nat) := ⟨_, rfl⟩
  have hs8 := nsz_le n hn
  have e1 : Int.tdiv (wrap64 (wrap64 (bl + 8) - 1)) 8 = ss := by
    have hb : Go.Lib.bitLen n ≤ 64 := Go.Lib.bitLen_le n 64 (Nat.le_refl _) (by omega)
    have h1 : wrap64 (bl + 8) = bl + 8 := by unfold wrap64; omega
    have h2 : wrap64 (bl + 8 - 1) = bl + 7 := by unfold wrap64; omega
    rw [h1, h2, Int.tdiv_eq_ediv_of_nonneg (by omega), hss, hbl]
    unfold nsz
    omega
  have e2 : (mm + ss) % 256 = mm + ss := by omega
  have e3 : ss % 256 = ss := by omega
  have e4 : wrap64 (ss - 1) = ss - 1 := by unfold wrap64; omega
  have HL := Aside0.mk (fun W => (Tryd.bits_Len64 nn W (by omega) (by omega)).mono (R' := fun e w' => e = .returned (.int .i64 bl) ∧ w' = W) (by
    rintro e w' ⟨rfl, h⟩
    exact ⟨by rw [hbl, hnn]; simp, h⟩))
  have hc0 : w.cell? ⟨g, 0, none⟩ = some v := blk_cell hq.blk 0
  have hf0 := blk_frozen hq.blk 0
  have HQ := Aside0.mk hq
  rw [← hnn, ← hmm]
  have HNN := Aside0.mk hnn
  have HSS := Aside0.mk hss
  have HMM := Aside0.mk hmm
  have HBL := Aside0.mk hbl
  clear hnn hss hmm hbl hq
  go_enter Tryd.func29, Tryd.ntmps29
  go_wp2_with (first | (go_at_call 39; refine (HL.out _).mono ?_; rintro e w5 ⟨rfl, rfl⟩) | ((with_reducible refine gate_builtin (b := .append) (xs := #[.tmp 20, .tmp 25]) rfl ?_); at_builtin; go_loud (refine print_append_num (w0 := w5) 0 rfl (.tmp 20) (.tmp 25) 22 5 .u8 1 rfl Tryd.underlying22 byt_info (by decide) v l (mm + ss) rfl rfl HQ.out.row ⟨rfl, rfl, rfl, Nat.le_refl _, fun _ _ => rfl⟩ (Nat.zero_le _) ?aL ?_); (case aL => omega); intro v1 w1 hown hb0 hg hat; generalize hn1 : (l ++ [mm + ss]).length = n1 at hown; have HN1 := Aside0.mk hn1; clear hn1; obtain ⟨A1, cc1, rfl⟩ := own_slice hown; have hblk := (hg.block g (blk_lt HQ.out.blk) (HQ.out.ne HQ.out.row)).trans HQ.out.blk; have hf1 := blk_frozen hblk 0; have hc1 : w1.cell? ⟨g, 0, none⟩ = some v := blk_cell hblk 0; have HOWN := Aside0.mk hown; have HBLK := Aside0.mk hblk; have HGR := Aside0.mk hg; have HAT := Aside0.mk hat; clear hown hblk hg hat hb0) | fail)
  have hrow0 : Bys w1 (.slice A1 n1 cc1) (l ++ [mm + ss]) := by
    unfold Bys
    rw [HN1.out]
    exact HOWN.out
  have hk0 : KeepQ w5 (w1.setCell ⟨g, 0, none⟩ (.slice A1 n1 cc1)) g v.ownBlock := ((KeepQ.refl w5 g v.ownBlock).grown HGR.out (.inl rfl)).set _ _
  have hq0 : Qu (w1.setCell ⟨g, 0, none⟩ (.slice A1 n1 cc1)) g (.slice A1 n1 cc1) (l ++ [mm + ss]) := ⟨blk_put HBLK.out 0 _ rfl, hrow0.move fun k hk => Below.heap_setCell _ _ _ _ (fun e => by subst e; exact hq1 hrow0 HBLK.out hk)⟩
  have HQ0 := Aside0.mk hq0
  have HK0 := Aside0.mk hk0
  clear hrow0 hk0 hq0
  have hl0 : (l ++ [mm + ss]).length = l.length + 1 := by simp
  have HL0 := Aside0.mk hl0
  clear hl0
  go_loopg [8] (nsz n) (fun kq v8 w' => ∃ (ii : Int) (V : Value), v8 = .int .i64 ii ∧ kq ≤ nsz n ∧ ii = (kq : Nat) - 1 ∧ Aside0 (Qu w' g V ((l ++ [mm + ss]) ++ ntop n (nsz n) (nsz n - kq)) ∧ KeepQ w5 w' g v.ownBlock ∧ Since w5 v V))
  case atStart => exact ⟨ss - 1, _, rfl, Nat.le_refl _, by have := HSS.out; omega, ⟨by rw [Nat.sub_self]; simp only [ntop, List.append_nil]; exact HQ0.out, HK0.out, HAT.out⟩⟩
  case round =>
    obtain ⟨ii, V, rfl, hkq, hii, HR⟩ := hrel
    have HII := Aside0.mk hii
    clear hii
    clear hc0 hf0 hf1 hc1
    cases gk with
    | zero =>
      have hlt : ¬ 0 ≤ ii := by have := HII.out; omega
      go_wp2
      go_ret
      refine ⟨rfl, V, ?_, HR.out.2.1, HR.out.2.2⟩
      have h := HR.out.1
      rw [Nat.sub_zero, ntop_all] at h
      rw [HMM.out, HSS.out, List.append_assoc] at h
      unfold nlay
      rw [Int.natCast_add]
      exact h
    | succ k1 =>
      have hlt : 0 ≤ ii := by have := HII.out; omega
      have e5 := Aside0.mk (show wrap64 (ii - 1) = ii - 1 by have := HII.out; unfold wrap64; omega)
      go_upto_region 8 with (fail)
      refine quw_r8 _ ?o8 _ _ g n k1 nn ii HNN ⟨?i8⟩ V ((l ++ [mm + ss]) ++ ntop n (nsz n) (nsz n - (k1 + 1))) ((n / 2 ^ (8 * k1) % 256 : Nat) : Int) ⟨rfl⟩ ?q8 HR.out.1 ?k8 hn ?l8 ?H8
      case o8 => rfl
      case i8 => have := HII.out; omega
      case q8 => exact fun _ _ d _ _ h => by cases d <;> exact h
      case k8 => omega
      case l8 => rw [List.length_append, ntop_len, List.length_append]; simp only [List.length_cons, List.length_nil]; omega
      case H8 =>
        intros
        rename_i V1 W1 hq1 hk1 hs1
        have HQ1 := Aside0.mk hq1
        have HK1 := Aside0.mk hk1
        have HS1 := Aside0.mk hs1
        clear hq1 hk1 hs1
        go_wp2
        go_roundg k1
        case measure => omega
        case rel =>
          refine ⟨ii - 1, V1, by rw [e5.out], by omega, by have := HII.out; omega, ⟨?_, HR.out.2.1.trans HK1.out HR.out.2.2.row, HR.out.2.2.trans HS1.out HR.out.2.1.size⟩⟩
          have h := HQ1.out
          rw [List.append_assoc] at h
          have e : ntop n (nsz n) (nsz n - (k1 + 1)) ++ [((n / 2 ^ (8 * k1) % 256 : Nat) : Int)] = ntop n (nsz n) (nsz n - k1) := by
            rw [show nsz n - k1 = (nsz n - (k1 + 1)) + 1 by omega, ntop, show nsz n - 1 - (nsz n - (k1 + 1)) = k1 by omega]
          rw [e] at h
          exact h

end Go.Proofs.YtdojgjbiilnjpaaDoor.M
