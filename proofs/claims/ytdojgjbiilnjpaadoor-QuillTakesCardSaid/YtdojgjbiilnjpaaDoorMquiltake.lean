import Derived.Test.YtdojgjbiilnjpaaDoorMquilref
import Derived.Test.YtdojgjbiilnjpaaDoorMquilmath
import Derived.StillTailTactics
set_option linter.unusedVariables false
set_option linter.unusedSimpArgs false
namespace Go.Proofs.YtdojgjbiilnjpaaDoor.M
open Go.RowKit Go.Proofs.YtdojgjbiilnjpaaDoorW.PrintWords Go.Proofs.YtdojgjbiilnjpaaDoorW.PrintLast Go.Proofs.YtdojgjbiilnjpaaDoorW.PrintMore
theorem RowB.set1 {N : Nat} {w : World} {A : Option Addr} {l : List Int} {b : Nat} {t : TypeId} (h : RowB N w A l) (hT : Ty w b t) (o : Nat) (u : Value) (ht : t ≠ 5 := by decide) : RowB N (w.setCell ⟨b, o, none⟩ u) A l :=
  h.move fun b' cur _ hc => Below.heap_setCell w ⟨b, o, none⟩ u b' (fun e => by subst e; exact ht (hT.eq (Ty.of hc)))
theorem RowB.setV {N : Nat} {w : World} {A : Option Addr} {l : List Int} {b : Nat} {x0 x1 x2 : Int} {s : ByteArray} {x4 : Int} (h : RowB N w A l) (hT : Ty w b 31) : RowB N (setV w b x0 x1 x2 s x4) A l :=
  RowB.set1 (RowB.set1 (RowB.set1 (RowB.set1 (RowB.set1 h hT 0 _) (hT.set _ _ _) 1 _) ((hT.set _ _ _).set _ _ _) 2 _) (((hT.set _ _ _).set _ _ _).set _ _ _) 3 _) ((((hT.set _ _ _).set _ _ _).set _ _ _).set _ _ _) 4 _
set_option maxHeartbeats 8000000 in
set_option maxRecDepth 100000 in
theorem tk_none (N : Nat) (A : Option Addr) (c : Nat) (l : List Int) (k u i m : Int) (s : ByteArray) (w : World) (hc : l.length ≤ c) (hl : l.length ≤ 1000000) (hh : ∀ x ∈ l, 0 ≤ x ∧ x ≤ 255) (hR0 : RowB N w A l) (hk0 : 0 ≤ k) (hk1 : k ≤ 255) (hm0 : 0 ≤ m) (hm1 : m ≤ 18446744073709551615) (hi : inum l = none) :
    Calls Tryd.prog 10 #[.slice A l.length c, .agg #[.int .u8 k, .int .u64 u, .int .i64 i, .string s, .int .u64 m]] w fun e w' => e = .returned (.tuple #[.agg #[.int .u8 k, .int .u64 0, .int .i64 0, .string (⟨#[]⟩ : ByteArray), .int .u64 0], .slice none 0 0, .bool false]) ∧ Below w.heap.size w w' := by
  have hnum := fun (W : World) (hR : RowB N W A l) => ref_number N A c l W hc hl hh hR
  simp only [hi] at hnum
  have HNUM := Aside0.mk hnum
  have hR := Aside0.mk hR0
  have hkt : Int.tmod k 4 = k % 4 := Int.tmod_eq_emod_of_nonneg hk0
  clear hnum hi hR0 hh
  generalize l.length = ll at HNUM hc hl ⊢
  go_enter Tryd.func10, Tryd.ntmps10
  go_upto_region 2 with (first | ((with_reducible refine gate_dst (N := 3) rfl ?_); (try (refine gate_guard (by rfl) ?_; dsimp only)); refine box_event ?hg (N := 3) ?hd (cs := #[.int .u8 k, .int .u64 u, .int .i64 i, .string s, .int .u64 m]) (t := 31) ?hr ?_; (case hd => rfl); (case hg => rfl); (case hr => first | (go_simp; done) | (go_simp; rfl)); intro gb3 hg w3 hbox hb; have BK3 := Aside0.mk hbox; have G3 := Aside0.mk (Nat.le_of_eq hg.symm : w.heap.size ≤ gb3); have HB := Aside0.mk hb; have HR3 := Aside0.mk (hR.out.move fun b cur _ hc => hb.block b (blk_lt hc)); clear hbox hb hg) | ((with_reducible refine gate_dst (N := 4) rfl ?_); (try (refine gate_guard (by rfl) ?_; dsimp only)); refine box_event ?hg (N := 4) ?hd (cs := #[.int .u8 0, .int .u64 0, .int .i64 0, .string (⟨#[]⟩ : ByteArray), .int .u64 0]) (t := 31) ?hr ?_; (case hd => rfl); (case hg => rfl); (case hr => first | (go_simp; done) | (go_simp; rfl)); intro gb4 hg w4 hbox hb; have n_ := Aside0.mk (blk_below BK3.out hb); have N34 := Aside0.mk (show gb3 < gb4 by have := blk_lt BK3.out; omega); clear BK3; have BK3 := n_; clear n_; have BK4 := Aside0.mk hbox; have n_ := Aside0.mk (below_step HB.out hb); clear HB; have HB := n_; clear n_; have n_ := Aside0.mk (HR3.out.move fun b cur _ hc => hb.block b (blk_lt hc)); clear HR3; have HR3 := n_; clear n_; have hc3 : w4.cell? ⟨gb3, 0, none⟩ = some (.int .u8 k) := blk_cell BK3.out 0; clear hbox hb hg) | ((with_reducible refine gate_dst (N := 7) rfl ?_); (try (refine gate_guard (by rfl) ?_; dsimp only)); refine box_event ?hg (N := 7) ?hd (cs := #[.int .u8 0, .int .u64 0, .int .i64 0, .string (⟨#[]⟩ : ByteArray), .int .u64 0]) (t := 31) ?hr ?_; (case hd => rfl); (case hg => rfl); (case hr => first | (go_simp; done) | (go_simp; rfl)); intro gb7 hg w7 hbox hb; have N47 := Aside0.mk (show gb4 < gb7 by have := blk_lt BK4.out; omega); have n_ := Aside0.mk (blk_below BK3.out hb); clear BK3; have BK3 := n_; clear n_; have n_ := Aside0.mk (blk_below BK4.out hb); clear BK4; have BK4 := n_; clear n_; have BK7 := Aside0.mk hbox; have n_ := Aside0.mk (below_step HB.out hb); clear HB; have HB := n_; clear n_; have n_ := Aside0.mk (HR3.out.move fun b cur _ hc => hb.block b (blk_lt hc)); clear HR3; have HR3 := n_; clear n_; clear hc3; have hcz_0 : w7.cell? ⟨gb7, 0, none⟩ = some (.int .u8 0) := blk_cell hbox 0; have hfz_0 := blk_frozen hbox 0; have hcz_1 : w7.cell? ⟨gb7, 1, none⟩ = some (.int .u64 0) := blk_cell hbox 1; have hfz_1 := blk_frozen hbox 1; have hcz_2 : w7.cell? ⟨gb7, 2, none⟩ = some (.int .i64 0) := blk_cell hbox 2; have hfz_2 := blk_frozen hbox 2; have hcz_3 : w7.cell? ⟨gb7, 3, none⟩ = some (.string (⟨#[]⟩ : ByteArray)) := blk_cell hbox 3; have hfz_3 := blk_frozen hbox 3; have hcz_4 : w7.cell? ⟨gb7, 4, none⟩ = some (.int .u64 0) := blk_cell hbox 4; have hfz_4 := blk_frozen hbox 4; skip; clear hbox hb hg))
  change Code.wp _ _ _ _ (setV w7 gb7 k 0 0 ⟨#[]⟩ 0)
  have hT7 : Ty w7 gb7 31 := Ty.of BK7.out
  have n37 : gb3 ≠ gb7 := by have := N34.out; have := N47.out; omega
  have n47 : gb4 ≠ gb7 := by have := N47.out; omega
  have B3 := Aside0.mk (show (setV w7 gb7 k 0 0 ⟨#[]⟩ 0).heap[gb3]? = some (.cells #[.int .u8 k, .int .u64 u, .int .i64 i, .string s, .int .u64 m] 31 (0, 0)) from blk_far (blk_far (blk_far (blk_far (blk_far BK3.out n37 _) n37 _) n37 _) n37 _) n37 _)
  have B4 := Aside0.mk (show (setV w7 gb7 k 0 0 ⟨#[]⟩ 0).heap[gb4]? = some (.cells #[.int .u8 0, .int .u64 0, .int .i64 0, .string (⟨#[]⟩ : ByteArray), .int .u64 0] 31 (0, 0)) from blk_far (blk_far (blk_far (blk_far (blk_far BK4.out n47 _) n47 _) n47 _) n47 _) n47 _)
  have B7 := Aside0.mk (setV_blk (x0 := k) (x1 := 0) (x2 := 0) (s := ⟨#[]⟩) (x4 := 0) BK7.out)
  have HBW := Aside0.mk (setV_below (x0 := k) (x1 := 0) (x2 := 0) (s := ⟨#[]⟩) (x4 := 0) HB.out (show w.heap.size ≤ gb7 by have := G3.out; have := N34.out; have := N47.out; omega))
  have HRW := Aside0.mk (RowB.setV (x0 := k) (x1 := 0) (x2 := 0) (s := ⟨#[]⟩) (x4 := 0) HR3.out hT7)
  clear BK3 BK4 BK7 HB HR3 hT7 hcz_0 hfz_0 hcz_1 hfz_1 hcz_2 hfz_2 hcz_3 hfz_3 hcz_4 hfz_4
  generalize setV w7 gb7 k 0 0 ⟨#[]⟩ 0 = W at B3 B4 B7 HBW HRW
  go_wp2_with (first | (go_at_call 27; refine (HNUM.out W HRW.out).mono ?_; rintro e w6 ⟨⟨A6, c6, rfl, h1, h2⟩, mq, hw⟩; have hbq : Below W.heap.size W w6 := hw ▸ pw_below_drewN (Below.refl _ _) mq; have n3_ := Aside0.mk (blk_below B3.out hbq); have n4_ := Aside0.mk (blk_below B4.out hbq); have n7_ := Aside0.mk (blk_below B7.out hbq); have nb_ := Aside0.mk (below_step HBW.out hbq); have HR6 := Aside0.mk (h2.move fun b cur _ hc => hbq.block b (blk_lt hc)); have HC6 := Aside0.mk h1; clear B3 B4 B7 HBW HRW hbq hw h1 h2; have B3 := n3_; have B4 := n4_; have B7 := n7_; have HBW := nb_; clear n3_ n4_ n7_ nb_; have hc3_0 : w6.cell? ⟨gb3, 0, none⟩ = some (.int .u8 k) := blk_cell B3.out 0; have hc3_4 : w6.cell? ⟨gb3, 4, none⟩ = some (.int .u64 m) := blk_cell B3.out 4; have hc7_0 : w6.cell? ⟨gb7, 0, none⟩ = some (.int .u8 k) := blk_cell B7.out 0; have hf7_0 := blk_frozen B7.out 0; have hc4_0 : w6.cell? ⟨gb4, 0, none⟩ = some (.int .u8 0) := blk_cell B4.out 0; have hf4_0 := blk_frozen B4.out 0; have hc7_1 : w6.cell? ⟨gb7, 1, none⟩ = some (.int .u64 0) := blk_cell B7.out 1; have hf7_1 := blk_frozen B7.out 1; have hc4_1 : w6.cell? ⟨gb4, 1, none⟩ = some (.int .u64 0) := blk_cell B4.out 1; have hf4_1 := blk_frozen B4.out 1; have hc7_2 : w6.cell? ⟨gb7, 2, none⟩ = some (.int .i64 0) := blk_cell B7.out 2; have hf7_2 := blk_frozen B7.out 2; have hc4_2 : w6.cell? ⟨gb4, 2, none⟩ = some (.int .i64 0) := blk_cell B4.out 2; have hf4_2 := blk_frozen B4.out 2; have hc7_3 : w6.cell? ⟨gb7, 3, none⟩ = some (.string (⟨#[]⟩ : ByteArray)) := blk_cell B7.out 3; have hf7_3 := blk_frozen B7.out 3; have hc4_3 : w6.cell? ⟨gb4, 3, none⟩ = some (.string (⟨#[]⟩ : ByteArray)) := blk_cell B4.out 3; have hf4_3 := blk_frozen B4.out 3; have hc7_4 : w6.cell? ⟨gb7, 4, none⟩ = some (.int .u64 0) := blk_cell B7.out 4; have hf7_4 := blk_frozen B7.out 4; have hc4_4 : w6.cell? ⟨gb4, 4, none⟩ = some (.int .u64 0) := blk_cell B4.out 4; have hf4_4 := blk_frozen B4.out 4; have n73 := Ne.symm n37; have n74 := Ne.symm n47; have n34 : gb3 ≠ gb4 := (by have := N34.out; omega); have n43 := Ne.symm n34))
  have GW4 : w.heap.size ≤ gb4 := by have := G3.out; have := N34.out; omega
  have GW7 : w.heap.size ≤ gb7 := by have := N47.out; omega
  refine bodyPost_ret (results_list (rs := [.cell 4 31, .tmp 5, .tmp 6]) rfl (by simp) (.cell gb4 31 #[.int .u8 k, .int .u64 0, .int .i64 0, .string (⟨#[]⟩ : ByteArray), .int .u64 0] (0, 0) _ rfl ?hgr Tryd.underlying31 rfl (by kernel_rfl) (.tmp (.tmp .nil)))) rfl ?_
  case hgr => exact (blk_put (blk_put (blk_put (blk_put (blk_put B4.out 0 _ rfl) 1 _ rfl) 2 _ rfl) 3 _ rfl) 4 _ rfl)
  exact ⟨rfl, (((((HBW.out.setCell (p := ⟨gb4, 0, none⟩) GW4 _).setCell (p := ⟨gb4, 1, none⟩) GW4 _).setCell (p := ⟨gb4, 2, none⟩) GW4 _).setCell (p := ⟨gb4, 3, none⟩) GW4 _).setCell (p := ⟨gb4, 4, none⟩) GW4 _)⟩
set_option maxHeartbeats 8000000 in
set_option maxRecDepth 100000 in
theorem tk0 (N : Nat) (A : Option Addr) (c : Nat) (l : List Int) (k u i m : Int) (s : ByteArray) (w : World) (hc : l.length ≤ c) (hl : l.length ≤ 1000000) (hh : ∀ x ∈ l, 0 ≤ x ∧ x ≤ 255) (hR0 : RowB N w A l) (hk0 : 0 ≤ k) (hk1 : k ≤ 255) (hm0 : 0 ≤ m) (hm1 : m ≤ 18446744073709551615) (hk : k % 4 = 0) (n : Int) (r : List Int) (hi : inum l = some (n, false, r)) (hn0 : 0 ≤ n) (hn1 : n ≤ 18446744073709551615) (hnm : n ≤ m) :
    Calls Tryd.prog 10 #[.slice A l.length c, .agg #[.int .u8 k, .int .u64 u, .int .i64 i, .string s, .int .u64 m]] w fun e w' => ∃ A' c', e = .returned (.tuple #[.agg #[.int .u8 k, .int .u64 n, .int .i64 0, .string (⟨#[]⟩ : ByteArray), .int .u64 0], .slice A' r.length c', .bool true]) ∧ r.length ≤ c' ∧ RowB N w' A' r ∧ Below w.heap.size w w' := by
  have hnum := fun (W : World) (hR : RowB N W A l) => ref_number N A c l W hc hl hh hR
  simp only [hi] at hnum
  have HNUM := Aside0.mk hnum
  have hR := Aside0.mk hR0
  have hkt : Int.tmod k 4 = k % 4 := Int.tmod_eq_emod_of_nonneg hk0
  clear hnum hi hR0 hh
  generalize l.length = ll at HNUM hc hl ⊢
  go_enter Tryd.func10, Tryd.ntmps10
  go_upto_region 2 with (first | ((with_reducible refine gate_dst (N := 3) rfl ?_); (try (refine gate_guard (by rfl) ?_; dsimp only)); refine box_event ?hg (N := 3) ?hd (cs := #[.int .u8 k, .int .u64 u, .int .i64 i, .string s, .int .u64 m]) (t := 31) ?hr ?_; (case hd => rfl); (case hg => rfl); (case hr => first | (go_simp; done) | (go_simp; rfl)); intro gb3 hg w3 hbox hb; have BK3 := Aside0.mk hbox; have G3 := Aside0.mk (Nat.le_of_eq hg.symm : w.heap.size ≤ gb3); have HB := Aside0.mk hb; have HR3 := Aside0.mk (hR.out.move fun b cur _ hc => hb.block b (blk_lt hc)); clear hbox hb hg) | ((with_reducible refine gate_dst (N := 4) rfl ?_); (try (refine gate_guard (by rfl) ?_; dsimp only)); refine box_event ?hg (N := 4) ?hd (cs := #[.int .u8 0, .int .u64 0, .int .i64 0, .string (⟨#[]⟩ : ByteArray), .int .u64 0]) (t := 31) ?hr ?_; (case hd => rfl); (case hg => rfl); (case hr => first | (go_simp; done) | (go_simp; rfl)); intro gb4 hg w4 hbox hb; have n_ := Aside0.mk (blk_below BK3.out hb); have N34 := Aside0.mk (show gb3 < gb4 by have := blk_lt BK3.out; omega); clear BK3; have BK3 := n_; clear n_; have BK4 := Aside0.mk hbox; have n_ := Aside0.mk (below_step HB.out hb); clear HB; have HB := n_; clear n_; have n_ := Aside0.mk (HR3.out.move fun b cur _ hc => hb.block b (blk_lt hc)); clear HR3; have HR3 := n_; clear n_; have hc3 : w4.cell? ⟨gb3, 0, none⟩ = some (.int .u8 k) := blk_cell BK3.out 0; clear hbox hb hg) | ((with_reducible refine gate_dst (N := 7) rfl ?_); (try (refine gate_guard (by rfl) ?_; dsimp only)); refine box_event ?hg (N := 7) ?hd (cs := #[.int .u8 0, .int .u64 0, .int .i64 0, .string (⟨#[]⟩ : ByteArray), .int .u64 0]) (t := 31) ?hr ?_; (case hd => rfl); (case hg => rfl); (case hr => first | (go_simp; done) | (go_simp; rfl)); intro gb7 hg w7 hbox hb; have N47 := Aside0.mk (show gb4 < gb7 by have := blk_lt BK4.out; omega); have n_ := Aside0.mk (blk_below BK3.out hb); clear BK3; have BK3 := n_; clear n_; have n_ := Aside0.mk (blk_below BK4.out hb); clear BK4; have BK4 := n_; clear n_; have BK7 := Aside0.mk hbox; have n_ := Aside0.mk (below_step HB.out hb); clear HB; have HB := n_; clear n_; have n_ := Aside0.mk (HR3.out.move fun b cur _ hc => hb.block b (blk_lt hc)); clear HR3; have HR3 := n_; clear n_; clear hc3; have hcz_0 : w7.cell? ⟨gb7, 0, none⟩ = some (.int .u8 0) := blk_cell hbox 0; have hfz_0 := blk_frozen hbox 0; have hcz_1 : w7.cell? ⟨gb7, 1, none⟩ = some (.int .u64 0) := blk_cell hbox 1; have hfz_1 := blk_frozen hbox 1; have hcz_2 : w7.cell? ⟨gb7, 2, none⟩ = some (.int .i64 0) := blk_cell hbox 2; have hfz_2 := blk_frozen hbox 2; have hcz_3 : w7.cell? ⟨gb7, 3, none⟩ = some (.string (⟨#[]⟩ : ByteArray)) := blk_cell hbox 3; have hfz_3 := blk_frozen hbox 3; have hcz_4 : w7.cell? ⟨gb7, 4, none⟩ = some (.int .u64 0) := blk_cell hbox 4; have hfz_4 := blk_frozen hbox 4; skip; clear hbox hb hg))
  change Code.wp _ _ _ _ (setV w7 gb7 k 0 0 ⟨#[]⟩ 0)
  have hT7 : Ty w7 gb7 31 := Ty.of BK7.out
  have n37 : gb3 ≠ gb7 := by have := N34.out; have := N47.out; omega
  have n47 : gb4 ≠ gb7 := by have := N47.out; omega
  have B3 := Aside0.mk (show (setV w7 gb7 k 0 0 ⟨#[]⟩ 0).heap[gb3]? = some (.cells #[.int .u8 k, .int .u64 u, .int .i64 i, .string s, .int .u64 m] 31 (0, 0)) from blk_far (blk_far (blk_far (blk_far (blk_far BK3.out n37 _) n37 _) n37 _) n37 _) n37 _)
  have B4 := Aside0.mk (show (setV w7 gb7 k 0 0 ⟨#[]⟩ 0).heap[gb4]? = some (.cells #[.int .u8 0, .int .u64 0, .int .i64 0, .string (⟨#[]⟩ : ByteArray), .int .u64 0] 31 (0, 0)) from blk_far (blk_far (blk_far (blk_far (blk_far BK4.out n47 _) n47 _) n47 _) n47 _) n47 _)
  have B7 := Aside0.mk (setV_blk (x0 := k) (x1 := 0) (x2 := 0) (s := ⟨#[]⟩) (x4 := 0) BK7.out)
  have HBW := Aside0.mk (setV_below (x0 := k) (x1 := 0) (x2 := 0) (s := ⟨#[]⟩) (x4 := 0) HB.out (show w.heap.size ≤ gb7 by have := G3.out; have := N34.out; have := N47.out; omega))
  have HRW := Aside0.mk (RowB.setV (x0 := k) (x1 := 0) (x2 := 0) (s := ⟨#[]⟩) (x4 := 0) HR3.out hT7)
  clear BK3 BK4 BK7 HB HR3 hT7 hcz_0 hfz_0 hcz_1 hfz_1 hcz_2 hfz_2 hcz_3 hfz_3 hcz_4 hfz_4
  generalize setV w7 gb7 k 0 0 ⟨#[]⟩ 0 = W at B3 B4 B7 HBW HRW
  go_wp2_with (first | (go_at_call 27; refine (HNUM.out W HRW.out).mono ?_; rintro e w6 ⟨⟨A6, c6, rfl, h1, h2⟩, mq, hw⟩; have hbq : Below W.heap.size W w6 := hw ▸ pw_below_drewN (Below.refl _ _) mq; have n3_ := Aside0.mk (blk_below B3.out hbq); have n4_ := Aside0.mk (blk_below B4.out hbq); have n7_ := Aside0.mk (blk_below B7.out hbq); have nb_ := Aside0.mk (below_step HBW.out hbq); have HR6 := Aside0.mk (h2.move fun b cur _ hc => hbq.block b (blk_lt hc)); have HC6 := Aside0.mk h1; clear B3 B4 B7 HBW HRW hbq hw h1 h2; have B3 := n3_; have B4 := n4_; have B7 := n7_; have HBW := nb_; clear n3_ n4_ n7_ nb_; have hc3_0 : w6.cell? ⟨gb3, 0, none⟩ = some (.int .u8 k) := blk_cell B3.out 0; have hc3_4 : w6.cell? ⟨gb3, 4, none⟩ = some (.int .u64 m) := blk_cell B3.out 4; have hc7_0 : w6.cell? ⟨gb7, 0, none⟩ = some (.int .u8 k) := blk_cell B7.out 0; have hf7_0 := blk_frozen B7.out 0; have hc4_0 : w6.cell? ⟨gb4, 0, none⟩ = some (.int .u8 0) := blk_cell B4.out 0; have hf4_0 := blk_frozen B4.out 0; have hc7_1 : w6.cell? ⟨gb7, 1, none⟩ = some (.int .u64 0) := blk_cell B7.out 1; have hf7_1 := blk_frozen B7.out 1; have hc4_1 : w6.cell? ⟨gb4, 1, none⟩ = some (.int .u64 0) := blk_cell B4.out 1; have hf4_1 := blk_frozen B4.out 1; have hc7_2 : w6.cell? ⟨gb7, 2, none⟩ = some (.int .i64 0) := blk_cell B7.out 2; have hf7_2 := blk_frozen B7.out 2; have hc4_2 : w6.cell? ⟨gb4, 2, none⟩ = some (.int .i64 0) := blk_cell B4.out 2; have hf4_2 := blk_frozen B4.out 2; have hc7_3 : w6.cell? ⟨gb7, 3, none⟩ = some (.string (⟨#[]⟩ : ByteArray)) := blk_cell B7.out 3; have hf7_3 := blk_frozen B7.out 3; have hc4_3 : w6.cell? ⟨gb4, 3, none⟩ = some (.string (⟨#[]⟩ : ByteArray)) := blk_cell B4.out 3; have hf4_3 := blk_frozen B4.out 3; have hc7_4 : w6.cell? ⟨gb7, 4, none⟩ = some (.int .u64 0) := blk_cell B7.out 4; have hf7_4 := blk_frozen B7.out 4; have hc4_4 : w6.cell? ⟨gb4, 4, none⟩ = some (.int .u64 0) := blk_cell B4.out 4; have hf4_4 := blk_frozen B4.out 4; have n73 := Ne.symm n37; have n74 := Ne.symm n47; have n34 : gb3 ≠ gb4 := (by have := N34.out; omega); have n43 := Ne.symm n34))
  have GW4 : w.heap.size ≤ gb4 := by have := G3.out; have := N34.out; omega
  have GW7 : w.heap.size ≤ gb7 := by have := N47.out; omega
  refine bodyPost_ret (results_list (rs := [.cell 4 31, .tmp 5, .tmp 6]) rfl (by simp) (.cell gb4 31 #[.int .u8 k, .int .u64 n, .int .i64 0, .string (⟨#[]⟩ : ByteArray), .int .u64 0] (0, 0) _ rfl ?hgr Tryd.underlying31 rfl (by kernel_rfl) (.tmp (.tmp .nil)))) rfl ?_
  case hgr => exact (blk_put (blk_put (blk_put (blk_put (blk_put (blk_far B4.out n47 _) 0 _ rfl) 1 _ rfl) 2 _ rfl) 3 _ rfl) 4 _ rfl)
  have hrow := HR6.out
  have t4 : Ty w6 gb4 31 := Ty.of B4.out
  have t7 : Ty w6 gb7 31 := Ty.of B7.out
  exact ⟨A6, c6, rfl, HC6.out, (RowB.set1 (RowB.set1 (RowB.set1 (RowB.set1 (RowB.set1 (RowB.set1 hrow t7 1 _) (t4.set _ _ _) 0 _) ((t4.set _ _ _).set _ _ _) 1 _) (((t4.set _ _ _).set _ _ _).set _ _ _) 2 _) ((((t4.set _ _ _).set _ _ _).set _ _ _).set _ _ _) 3 _) (((((t4.set _ _ _).set _ _ _).set _ _ _).set _ _ _).set _ _ _) 4 _), ((((((HBW.out.setCell (p := ⟨gb7, 1, none⟩) GW7 _).setCell (p := ⟨gb4, 0, none⟩) GW4 _).setCell (p := ⟨gb4, 1, none⟩) GW4 _).setCell (p := ⟨gb4, 2, none⟩) GW4 _).setCell (p := ⟨gb4, 3, none⟩) GW4 _).setCell (p := ⟨gb4, 4, none⟩) GW4 _)⟩
set_option maxHeartbeats 8000000 in
set_option maxRecDepth 100000 in
theorem tk0m (N : Nat) (A : Option Addr) (c : Nat) (l : List Int) (k u i m : Int) (s : ByteArray) (w : World) (hc : l.length ≤ c) (hl : l.length ≤ 1000000) (hh : ∀ x ∈ l, 0 ≤ x ∧ x ≤ 255) (hR0 : RowB N w A l) (hk0 : 0 ≤ k) (hk1 : k ≤ 255) (hm0 : 0 ≤ m) (hm1 : m ≤ 18446744073709551615) (hk : k % 4 = 0) (n : Int) (r : List Int) (hi : inum l = some (n, true, r)) (hn0 : 0 ≤ n) (hn1 : n ≤ 18446744073709551615) :
    Calls Tryd.prog 10 #[.slice A l.length c, .agg #[.int .u8 k, .int .u64 u, .int .i64 i, .string s, .int .u64 m]] w fun e w' => e = .returned (.tuple #[.agg #[.int .u8 k, .int .u64 0, .int .i64 0, .string (⟨#[]⟩ : ByteArray), .int .u64 0], .slice none 0 0, .bool false]) ∧ Below w.heap.size w w' := by
  have hnum := fun (W : World) (hR : RowB N W A l) => ref_number N A c l W hc hl hh hR
  simp only [hi] at hnum
  have HNUM := Aside0.mk hnum
  have hR := Aside0.mk hR0
  have hkt : Int.tmod k 4 = k % 4 := Int.tmod_eq_emod_of_nonneg hk0
  clear hnum hi hR0 hh
  generalize l.length = ll at HNUM hc hl ⊢
  go_enter Tryd.func10, Tryd.ntmps10
  go_upto_region 2 with (first | ((with_reducible refine gate_dst (N := 3) rfl ?_); (try (refine gate_guard (by rfl) ?_; dsimp only)); refine box_event ?hg (N := 3) ?hd (cs := #[.int .u8 k, .int .u64 u, .int .i64 i, .string s, .int .u64 m]) (t := 31) ?hr ?_; (case hd => rfl); (case hg => rfl); (case hr => first | (go_simp; done) | (go_simp; rfl)); intro gb3 hg w3 hbox hb; have BK3 := Aside0.mk hbox; have G3 := Aside0.mk (Nat.le_of_eq hg.symm : w.heap.size ≤ gb3); have HB := Aside0.mk hb; have HR3 := Aside0.mk (hR.out.move fun b cur _ hc => hb.block b (blk_lt hc)); clear hbox hb hg) | ((with_reducible refine gate_dst (N := 4) rfl ?_); (try (refine gate_guard (by rfl) ?_; dsimp only)); refine box_event ?hg (N := 4) ?hd (cs := #[.int .u8 0, .int .u64 0, .int .i64 0, .string (⟨#[]⟩ : ByteArray), .int .u64 0]) (t := 31) ?hr ?_; (case hd => rfl); (case hg => rfl); (case hr => first | (go_simp; done) | (go_simp; rfl)); intro gb4 hg w4 hbox hb; have n_ := Aside0.mk (blk_below BK3.out hb); have N34 := Aside0.mk (show gb3 < gb4 by have := blk_lt BK3.out; omega); clear BK3; have BK3 := n_; clear n_; have BK4 := Aside0.mk hbox; have n_ := Aside0.mk (below_step HB.out hb); clear HB; have HB := n_; clear n_; have n_ := Aside0.mk (HR3.out.move fun b cur _ hc => hb.block b (blk_lt hc)); clear HR3; have HR3 := n_; clear n_; have hc3 : w4.cell? ⟨gb3, 0, none⟩ = some (.int .u8 k) := blk_cell BK3.out 0; clear hbox hb hg) | ((with_reducible refine gate_dst (N := 7) rfl ?_); (try (refine gate_guard (by rfl) ?_; dsimp only)); refine box_event ?hg (N := 7) ?hd (cs := #[.int .u8 0, .int .u64 0, .int .i64 0, .string (⟨#[]⟩ : ByteArray), .int .u64 0]) (t := 31) ?hr ?_; (case hd => rfl); (case hg => rfl); (case hr => first | (go_simp; done) | (go_simp; rfl)); intro gb7 hg w7 hbox hb; have N47 := Aside0.mk (show gb4 < gb7 by have := blk_lt BK4.out; omega); have n_ := Aside0.mk (blk_below BK3.out hb); clear BK3; have BK3 := n_; clear n_; have n_ := Aside0.mk (blk_below BK4.out hb); clear BK4; have BK4 := n_; clear n_; have BK7 := Aside0.mk hbox; have n_ := Aside0.mk (below_step HB.out hb); clear HB; have HB := n_; clear n_; have n_ := Aside0.mk (HR3.out.move fun b cur _ hc => hb.block b (blk_lt hc)); clear HR3; have HR3 := n_; clear n_; clear hc3; have hcz_0 : w7.cell? ⟨gb7, 0, none⟩ = some (.int .u8 0) := blk_cell hbox 0; have hfz_0 := blk_frozen hbox 0; have hcz_1 : w7.cell? ⟨gb7, 1, none⟩ = some (.int .u64 0) := blk_cell hbox 1; have hfz_1 := blk_frozen hbox 1; have hcz_2 : w7.cell? ⟨gb7, 2, none⟩ = some (.int .i64 0) := blk_cell hbox 2; have hfz_2 := blk_frozen hbox 2; have hcz_3 : w7.cell? ⟨gb7, 3, none⟩ = some (.string (⟨#[]⟩ : ByteArray)) := blk_cell hbox 3; have hfz_3 := blk_frozen hbox 3; have hcz_4 : w7.cell? ⟨gb7, 4, none⟩ = some (.int .u64 0) := blk_cell hbox 4; have hfz_4 := blk_frozen hbox 4; skip; clear hbox hb hg))
  change Code.wp _ _ _ _ (setV w7 gb7 k 0 0 ⟨#[]⟩ 0)
  have hT7 : Ty w7 gb7 31 := Ty.of BK7.out
  have n37 : gb3 ≠ gb7 := by have := N34.out; have := N47.out; omega
  have n47 : gb4 ≠ gb7 := by have := N47.out; omega
  have B3 := Aside0.mk (show (setV w7 gb7 k 0 0 ⟨#[]⟩ 0).heap[gb3]? = some (.cells #[.int .u8 k, .int .u64 u, .int .i64 i, .string s, .int .u64 m] 31 (0, 0)) from blk_far (blk_far (blk_far (blk_far (blk_far BK3.out n37 _) n37 _) n37 _) n37 _) n37 _)
  have B4 := Aside0.mk (show (setV w7 gb7 k 0 0 ⟨#[]⟩ 0).heap[gb4]? = some (.cells #[.int .u8 0, .int .u64 0, .int .i64 0, .string (⟨#[]⟩ : ByteArray), .int .u64 0] 31 (0, 0)) from blk_far (blk_far (blk_far (blk_far (blk_far BK4.out n47 _) n47 _) n47 _) n47 _) n47 _)
  have B7 := Aside0.mk (setV_blk (x0 := k) (x1 := 0) (x2 := 0) (s := ⟨#[]⟩) (x4 := 0) BK7.out)
  have HBW := Aside0.mk (setV_below (x0 := k) (x1 := 0) (x2 := 0) (s := ⟨#[]⟩) (x4 := 0) HB.out (show w.heap.size ≤ gb7 by have := G3.out; have := N34.out; have := N47.out; omega))
  have HRW := Aside0.mk (RowB.setV (x0 := k) (x1 := 0) (x2 := 0) (s := ⟨#[]⟩) (x4 := 0) HR3.out hT7)
  clear BK3 BK4 BK7 HB HR3 hT7 hcz_0 hfz_0 hcz_1 hfz_1 hcz_2 hfz_2 hcz_3 hfz_3 hcz_4 hfz_4
  generalize setV w7 gb7 k 0 0 ⟨#[]⟩ 0 = W at B3 B4 B7 HBW HRW
  go_wp2_with (first | (go_at_call 27; refine (HNUM.out W HRW.out).mono ?_; rintro e w6 ⟨⟨A6, c6, rfl, h1, h2⟩, mq, hw⟩; have hbq : Below W.heap.size W w6 := hw ▸ pw_below_drewN (Below.refl _ _) mq; have n3_ := Aside0.mk (blk_below B3.out hbq); have n4_ := Aside0.mk (blk_below B4.out hbq); have n7_ := Aside0.mk (blk_below B7.out hbq); have nb_ := Aside0.mk (below_step HBW.out hbq); have HR6 := Aside0.mk (h2.move fun b cur _ hc => hbq.block b (blk_lt hc)); have HC6 := Aside0.mk h1; clear B3 B4 B7 HBW HRW hbq hw h1 h2; have B3 := n3_; have B4 := n4_; have B7 := n7_; have HBW := nb_; clear n3_ n4_ n7_ nb_; have hc3_0 : w6.cell? ⟨gb3, 0, none⟩ = some (.int .u8 k) := blk_cell B3.out 0; have hc3_4 : w6.cell? ⟨gb3, 4, none⟩ = some (.int .u64 m) := blk_cell B3.out 4; have hc7_0 : w6.cell? ⟨gb7, 0, none⟩ = some (.int .u8 k) := blk_cell B7.out 0; have hf7_0 := blk_frozen B7.out 0; have hc4_0 : w6.cell? ⟨gb4, 0, none⟩ = some (.int .u8 0) := blk_cell B4.out 0; have hf4_0 := blk_frozen B4.out 0; have hc7_1 : w6.cell? ⟨gb7, 1, none⟩ = some (.int .u64 0) := blk_cell B7.out 1; have hf7_1 := blk_frozen B7.out 1; have hc4_1 : w6.cell? ⟨gb4, 1, none⟩ = some (.int .u64 0) := blk_cell B4.out 1; have hf4_1 := blk_frozen B4.out 1; have hc7_2 : w6.cell? ⟨gb7, 2, none⟩ = some (.int .i64 0) := blk_cell B7.out 2; have hf7_2 := blk_frozen B7.out 2; have hc4_2 : w6.cell? ⟨gb4, 2, none⟩ = some (.int .i64 0) := blk_cell B4.out 2; have hf4_2 := blk_frozen B4.out 2; have hc7_3 : w6.cell? ⟨gb7, 3, none⟩ = some (.string (⟨#[]⟩ : ByteArray)) := blk_cell B7.out 3; have hf7_3 := blk_frozen B7.out 3; have hc4_3 : w6.cell? ⟨gb4, 3, none⟩ = some (.string (⟨#[]⟩ : ByteArray)) := blk_cell B4.out 3; have hf4_3 := blk_frozen B4.out 3; have hc7_4 : w6.cell? ⟨gb7, 4, none⟩ = some (.int .u64 0) := blk_cell B7.out 4; have hf7_4 := blk_frozen B7.out 4; have hc4_4 : w6.cell? ⟨gb4, 4, none⟩ = some (.int .u64 0) := blk_cell B4.out 4; have hf4_4 := blk_frozen B4.out 4; have n73 := Ne.symm n37; have n74 := Ne.symm n47; have n34 : gb3 ≠ gb4 := (by have := N34.out; omega); have n43 := Ne.symm n34))
  have GW4 : w.heap.size ≤ gb4 := by have := G3.out; have := N34.out; omega
  have GW7 : w.heap.size ≤ gb7 := by have := N47.out; omega
  refine bodyPost_ret (results_list (rs := [.cell 4 31, .tmp 5, .tmp 6]) rfl (by simp) (.cell gb4 31 #[.int .u8 k, .int .u64 0, .int .i64 0, .string (⟨#[]⟩ : ByteArray), .int .u64 0] (0, 0) _ rfl ?hgr Tryd.underlying31 rfl (by kernel_rfl) (.tmp (.tmp .nil)))) rfl ?_
  case hgr => exact (blk_put (blk_put (blk_put (blk_put (blk_put (blk_far B4.out n47 _) 0 _ rfl) 1 _ rfl) 2 _ rfl) 3 _ rfl) 4 _ rfl)
  exact ⟨rfl, ((((((HBW.out.setCell (p := ⟨gb7, 1, none⟩) GW7 _).setCell (p := ⟨gb4, 0, none⟩) GW4 _).setCell (p := ⟨gb4, 1, none⟩) GW4 _).setCell (p := ⟨gb4, 2, none⟩) GW4 _).setCell (p := ⟨gb4, 3, none⟩) GW4 _).setCell (p := ⟨gb4, 4, none⟩) GW4 _)⟩
set_option maxHeartbeats 8000000 in
set_option maxRecDepth 100000 in
theorem tk0b (N : Nat) (A : Option Addr) (c : Nat) (l : List Int) (k u i m : Int) (s : ByteArray) (w : World) (hc : l.length ≤ c) (hl : l.length ≤ 1000000) (hh : ∀ x ∈ l, 0 ≤ x ∧ x ≤ 255) (hR0 : RowB N w A l) (hk0 : 0 ≤ k) (hk1 : k ≤ 255) (hm0 : 0 ≤ m) (hm1 : m ≤ 18446744073709551615) (hk : k % 4 = 0) (n : Int) (r : List Int) (hi : inum l = some (n, false, r)) (hn0 : 0 ≤ n) (hn1 : n ≤ 18446744073709551615) (hnm : m < n) :
    Calls Tryd.prog 10 #[.slice A l.length c, .agg #[.int .u8 k, .int .u64 u, .int .i64 i, .string s, .int .u64 m]] w fun e w' => e = .returned (.tuple #[.agg #[.int .u8 k, .int .u64 0, .int .i64 0, .string (⟨#[]⟩ : ByteArray), .int .u64 0], .slice none 0 0, .bool false]) ∧ Below w.heap.size w w' := by
  have hnum := fun (W : World) (hR : RowB N W A l) => ref_number N A c l W hc hl hh hR
  simp only [hi] at hnum
  have HNUM := Aside0.mk hnum
  have hR := Aside0.mk hR0
  have hkt : Int.tmod k 4 = k % 4 := Int.tmod_eq_emod_of_nonneg hk0
  have hnb : decide (n ≤ m) = false := decide_eq_false (by omega)
  clear hnum hi hR0 hh
  generalize l.length = ll at HNUM hc hl ⊢
  go_enter Tryd.func10, Tryd.ntmps10
  go_upto_region 2 with (first | ((with_reducible refine gate_dst (N := 3) rfl ?_); (try (refine gate_guard (by rfl) ?_; dsimp only)); refine box_event ?hg (N := 3) ?hd (cs := #[.int .u8 k, .int .u64 u, .int .i64 i, .string s, .int .u64 m]) (t := 31) ?hr ?_; (case hd => rfl); (case hg => rfl); (case hr => first | (go_simp; done) | (go_simp; rfl)); intro gb3 hg w3 hbox hb; have BK3 := Aside0.mk hbox; have G3 := Aside0.mk (Nat.le_of_eq hg.symm : w.heap.size ≤ gb3); have HB := Aside0.mk hb; have HR3 := Aside0.mk (hR.out.move fun b cur _ hc => hb.block b (blk_lt hc)); clear hbox hb hg) | ((with_reducible refine gate_dst (N := 4) rfl ?_); (try (refine gate_guard (by rfl) ?_; dsimp only)); refine box_event ?hg (N := 4) ?hd (cs := #[.int .u8 0, .int .u64 0, .int .i64 0, .string (⟨#[]⟩ : ByteArray), .int .u64 0]) (t := 31) ?hr ?_; (case hd => rfl); (case hg => rfl); (case hr => first | (go_simp; done) | (go_simp; rfl)); intro gb4 hg w4 hbox hb; have n_ := Aside0.mk (blk_below BK3.out hb); have N34 := Aside0.mk (show gb3 < gb4 by have := blk_lt BK3.out; omega); clear BK3; have BK3 := n_; clear n_; have BK4 := Aside0.mk hbox; have n_ := Aside0.mk (below_step HB.out hb); clear HB; have HB := n_; clear n_; have n_ := Aside0.mk (HR3.out.move fun b cur _ hc => hb.block b (blk_lt hc)); clear HR3; have HR3 := n_; clear n_; have hc3 : w4.cell? ⟨gb3, 0, none⟩ = some (.int .u8 k) := blk_cell BK3.out 0; clear hbox hb hg) | ((with_reducible refine gate_dst (N := 7) rfl ?_); (try (refine gate_guard (by rfl) ?_; dsimp only)); refine box_event ?hg (N := 7) ?hd (cs := #[.int .u8 0, .int .u64 0, .int .i64 0, .string (⟨#[]⟩ : ByteArray), .int .u64 0]) (t := 31) ?hr ?_; (case hd => rfl); (case hg => rfl); (case hr => first | (go_simp; done) | (go_simp; rfl)); intro gb7 hg w7 hbox hb; have N47 := Aside0.mk (show gb4 < gb7 by have := blk_lt BK4.out; omega); have n_ := Aside0.mk (blk_below BK3.out hb); clear BK3; have BK3 := n_; clear n_; have n_ := Aside0.mk (blk_below BK4.out hb); clear BK4; have BK4 := n_; clear n_; have BK7 := Aside0.mk hbox; have n_ := Aside0.mk (below_step HB.out hb); clear HB; have HB := n_; clear n_; have n_ := Aside0.mk (HR3.out.move fun b cur _ hc => hb.block b (blk_lt hc)); clear HR3; have HR3 := n_; clear n_; clear hc3; have hcz_0 : w7.cell? ⟨gb7, 0, none⟩ = some (.int .u8 0) := blk_cell hbox 0; have hfz_0 := blk_frozen hbox 0; have hcz_1 : w7.cell? ⟨gb7, 1, none⟩ = some (.int .u64 0) := blk_cell hbox 1; have hfz_1 := blk_frozen hbox 1; have hcz_2 : w7.cell? ⟨gb7, 2, none⟩ = some (.int .i64 0) := blk_cell hbox 2; have hfz_2 := blk_frozen hbox 2; have hcz_3 : w7.cell? ⟨gb7, 3, none⟩ = some (.string (⟨#[]⟩ : ByteArray)) := blk_cell hbox 3; have hfz_3 := blk_frozen hbox 3; have hcz_4 : w7.cell? ⟨gb7, 4, none⟩ = some (.int .u64 0) := blk_cell hbox 4; have hfz_4 := blk_frozen hbox 4; skip; clear hbox hb hg))
  change Code.wp _ _ _ _ (setV w7 gb7 k 0 0 ⟨#[]⟩ 0)
  have hT7 : Ty w7 gb7 31 := Ty.of BK7.out
  have n37 : gb3 ≠ gb7 := by have := N34.out; have := N47.out; omega
  have n47 : gb4 ≠ gb7 := by have := N47.out; omega
  have B3 := Aside0.mk (show (setV w7 gb7 k 0 0 ⟨#[]⟩ 0).heap[gb3]? = some (.cells #[.int .u8 k, .int .u64 u, .int .i64 i, .string s, .int .u64 m] 31 (0, 0)) from blk_far (blk_far (blk_far (blk_far (blk_far BK3.out n37 _) n37 _) n37 _) n37 _) n37 _)
  have B4 := Aside0.mk (show (setV w7 gb7 k 0 0 ⟨#[]⟩ 0).heap[gb4]? = some (.cells #[.int .u8 0, .int .u64 0, .int .i64 0, .string (⟨#[]⟩ : ByteArray), .int .u64 0] 31 (0, 0)) from blk_far (blk_far (blk_far (blk_far (blk_far BK4.out n47 _) n47 _) n47 _) n47 _) n47 _)
  have B7 := Aside0.mk (setV_blk (x0 := k) (x1 := 0) (x2 := 0) (s := ⟨#[]⟩) (x4 := 0) BK7.out)
  have HBW := Aside0.mk (setV_below (x0 := k) (x1 := 0) (x2 := 0) (s := ⟨#[]⟩) (x4 := 0) HB.out (show w.heap.size ≤ gb7 by have := G3.out; have := N34.out; have := N47.out; omega))
  have HRW := Aside0.mk (RowB.setV (x0 := k) (x1 := 0) (x2 := 0) (s := ⟨#[]⟩) (x4 := 0) HR3.out hT7)
  clear BK3 BK4 BK7 HB HR3 hT7 hcz_0 hfz_0 hcz_1 hfz_1 hcz_2 hfz_2 hcz_3 hfz_3 hcz_4 hfz_4
  generalize setV w7 gb7 k 0 0 ⟨#[]⟩ 0 = W at B3 B4 B7 HBW HRW
  go_wp2_with (first | (go_at_call 27; refine (HNUM.out W HRW.out).mono ?_; rintro e w6 ⟨⟨A6, c6, rfl, h1, h2⟩, mq, hw⟩; have hbq : Below W.heap.size W w6 := hw ▸ pw_below_drewN (Below.refl _ _) mq; have n3_ := Aside0.mk (blk_below B3.out hbq); have n4_ := Aside0.mk (blk_below B4.out hbq); have n7_ := Aside0.mk (blk_below B7.out hbq); have nb_ := Aside0.mk (below_step HBW.out hbq); have HR6 := Aside0.mk (h2.move fun b cur _ hc => hbq.block b (blk_lt hc)); have HC6 := Aside0.mk h1; clear B3 B4 B7 HBW HRW hbq hw h1 h2; have B3 := n3_; have B4 := n4_; have B7 := n7_; have HBW := nb_; clear n3_ n4_ n7_ nb_; have hc3_0 : w6.cell? ⟨gb3, 0, none⟩ = some (.int .u8 k) := blk_cell B3.out 0; have hc3_4 : w6.cell? ⟨gb3, 4, none⟩ = some (.int .u64 m) := blk_cell B3.out 4; have hc7_0 : w6.cell? ⟨gb7, 0, none⟩ = some (.int .u8 k) := blk_cell B7.out 0; have hf7_0 := blk_frozen B7.out 0; have hc4_0 : w6.cell? ⟨gb4, 0, none⟩ = some (.int .u8 0) := blk_cell B4.out 0; have hf4_0 := blk_frozen B4.out 0; have hc7_1 : w6.cell? ⟨gb7, 1, none⟩ = some (.int .u64 0) := blk_cell B7.out 1; have hf7_1 := blk_frozen B7.out 1; have hc4_1 : w6.cell? ⟨gb4, 1, none⟩ = some (.int .u64 0) := blk_cell B4.out 1; have hf4_1 := blk_frozen B4.out 1; have hc7_2 : w6.cell? ⟨gb7, 2, none⟩ = some (.int .i64 0) := blk_cell B7.out 2; have hf7_2 := blk_frozen B7.out 2; have hc4_2 : w6.cell? ⟨gb4, 2, none⟩ = some (.int .i64 0) := blk_cell B4.out 2; have hf4_2 := blk_frozen B4.out 2; have hc7_3 : w6.cell? ⟨gb7, 3, none⟩ = some (.string (⟨#[]⟩ : ByteArray)) := blk_cell B7.out 3; have hf7_3 := blk_frozen B7.out 3; have hc4_3 : w6.cell? ⟨gb4, 3, none⟩ = some (.string (⟨#[]⟩ : ByteArray)) := blk_cell B4.out 3; have hf4_3 := blk_frozen B4.out 3; have hc7_4 : w6.cell? ⟨gb7, 4, none⟩ = some (.int .u64 0) := blk_cell B7.out 4; have hf7_4 := blk_frozen B7.out 4; have hc4_4 : w6.cell? ⟨gb4, 4, none⟩ = some (.int .u64 0) := blk_cell B4.out 4; have hf4_4 := blk_frozen B4.out 4; have n73 := Ne.symm n37; have n74 := Ne.symm n47; have n34 : gb3 ≠ gb4 := (by have := N34.out; omega); have n43 := Ne.symm n34))
  have GW4 : w.heap.size ≤ gb4 := by have := G3.out; have := N34.out; omega
  have GW7 : w.heap.size ≤ gb7 := by have := N47.out; omega
  refine bodyPost_ret (results_list (rs := [.cell 4 31, .tmp 5, .tmp 6]) rfl (by simp) (.cell gb4 31 #[.int .u8 k, .int .u64 0, .int .i64 0, .string (⟨#[]⟩ : ByteArray), .int .u64 0] (0, 0) _ rfl ?hgr Tryd.underlying31 rfl (by kernel_rfl) (.tmp (.tmp .nil)))) rfl ?_
  case hgr => exact (blk_put (blk_put (blk_put (blk_put (blk_put (blk_far B4.out n47 _) 0 _ rfl) 1 _ rfl) 2 _ rfl) 3 _ rfl) 4 _ rfl)
  exact ⟨rfl, ((((((HBW.out.setCell (p := ⟨gb7, 1, none⟩) GW7 _).setCell (p := ⟨gb4, 0, none⟩) GW4 _).setCell (p := ⟨gb4, 1, none⟩) GW4 _).setCell (p := ⟨gb4, 2, none⟩) GW4 _).setCell (p := ⟨gb4, 3, none⟩) GW4 _).setCell (p := ⟨gb4, 4, none⟩) GW4 _)⟩
set_option maxHeartbeats 8000000 in
set_option maxRecDepth 100000 in
theorem tk1 (N : Nat) (A : Option Addr) (c : Nat) (l : List Int) (k u i m : Int) (s : ByteArray) (w : World) (hc : l.length ≤ c) (hl : l.length ≤ 1000000) (hh : ∀ x ∈ l, 0 ≤ x ∧ x ≤ 255) (hR0 : RowB N w A l) (hk0 : 0 ≤ k) (hk1 : k ≤ 255) (hm0 : 0 ≤ m) (hm1 : m ≤ 18446744073709551615) (hk : k % 4 = 1) (n : Int) (r : List Int) (hi : inum l = some (n, false, r)) (hn0 : 0 ≤ n) (hn1 : n ≤ 18446744073709551615) (hnm : n < 9223372036854775808) :
    Calls Tryd.prog 10 #[.slice A l.length c, .agg #[.int .u8 k, .int .u64 u, .int .i64 i, .string s, .int .u64 m]] w fun e w' => ∃ A' c', e = .returned (.tuple #[.agg #[.int .u8 k, .int .u64 0, .int .i64 n, .string (⟨#[]⟩ : ByteArray), .int .u64 0], .slice A' r.length c', .bool true]) ∧ r.length ≤ c' ∧ RowB N w' A' r ∧ Below w.heap.size w w' := by
  have hnum := fun (W : World) (hR : RowB N W A l) => ref_number N A c l W hc hl hh hR
  simp only [hi] at hnum
  have HNUM := Aside0.mk hnum
  have hR := Aside0.mk hR0
  have hkt : Int.tmod k 4 = k % 4 := Int.tmod_eq_emod_of_nonneg hk0
  have hw1 : wrap64 n = n := by unfold wrap64; omega
  have hw2 : wrap64 (-1 - n) = -1 - n := by unfold wrap64; omega
  clear hnum hi hR0 hh
  generalize l.length = ll at HNUM hc hl ⊢
  go_enter Tryd.func10, Tryd.ntmps10
  go_upto_region 2 with (first | ((with_reducible refine gate_dst (N := 3) rfl ?_); (try (refine gate_guard (by rfl) ?_; dsimp only)); refine box_event ?hg (N := 3) ?hd (cs := #[.int .u8 k, .int .u64 u, .int .i64 i, .string s, .int .u64 m]) (t := 31) ?hr ?_; (case hd => rfl); (case hg => rfl); (case hr => first | (go_simp; done) | (go_simp; rfl)); intro gb3 hg w3 hbox hb; have BK3 := Aside0.mk hbox; have G3 := Aside0.mk (Nat.le_of_eq hg.symm : w.heap.size ≤ gb3); have HB := Aside0.mk hb; have HR3 := Aside0.mk (hR.out.move fun b cur _ hc => hb.block b (blk_lt hc)); clear hbox hb hg) | ((with_reducible refine gate_dst (N := 4) rfl ?_); (try (refine gate_guard (by rfl) ?_; dsimp only)); refine box_event ?hg (N := 4) ?hd (cs := #[.int .u8 0, .int .u64 0, .int .i64 0, .string (⟨#[]⟩ : ByteArray), .int .u64 0]) (t := 31) ?hr ?_; (case hd => rfl); (case hg => rfl); (case hr => first | (go_simp; done) | (go_simp; rfl)); intro gb4 hg w4 hbox hb; have n_ := Aside0.mk (blk_below BK3.out hb); have N34 := Aside0.mk (show gb3 < gb4 by have := blk_lt BK3.out; omega); clear BK3; have BK3 := n_; clear n_; have BK4 := Aside0.mk hbox; have n_ := Aside0.mk (below_step HB.out hb); clear HB; have HB := n_; clear n_; have n_ := Aside0.mk (HR3.out.move fun b cur _ hc => hb.block b (blk_lt hc)); clear HR3; have HR3 := n_; clear n_; have hc3 : w4.cell? ⟨gb3, 0, none⟩ = some (.int .u8 k) := blk_cell BK3.out 0; clear hbox hb hg) | ((with_reducible refine gate_dst (N := 7) rfl ?_); (try (refine gate_guard (by rfl) ?_; dsimp only)); refine box_event ?hg (N := 7) ?hd (cs := #[.int .u8 0, .int .u64 0, .int .i64 0, .string (⟨#[]⟩ : ByteArray), .int .u64 0]) (t := 31) ?hr ?_; (case hd => rfl); (case hg => rfl); (case hr => first | (go_simp; done) | (go_simp; rfl)); intro gb7 hg w7 hbox hb; have N47 := Aside0.mk (show gb4 < gb7 by have := blk_lt BK4.out; omega); have n_ := Aside0.mk (blk_below BK3.out hb); clear BK3; have BK3 := n_; clear n_; have n_ := Aside0.mk (blk_below BK4.out hb); clear BK4; have BK4 := n_; clear n_; have BK7 := Aside0.mk hbox; have n_ := Aside0.mk (below_step HB.out hb); clear HB; have HB := n_; clear n_; have n_ := Aside0.mk (HR3.out.move fun b cur _ hc => hb.block b (blk_lt hc)); clear HR3; have HR3 := n_; clear n_; clear hc3; have hcz_0 : w7.cell? ⟨gb7, 0, none⟩ = some (.int .u8 0) := blk_cell hbox 0; have hfz_0 := blk_frozen hbox 0; have hcz_1 : w7.cell? ⟨gb7, 1, none⟩ = some (.int .u64 0) := blk_cell hbox 1; have hfz_1 := blk_frozen hbox 1; have hcz_2 : w7.cell? ⟨gb7, 2, none⟩ = some (.int .i64 0) := blk_cell hbox 2; have hfz_2 := blk_frozen hbox 2; have hcz_3 : w7.cell? ⟨gb7, 3, none⟩ = some (.string (⟨#[]⟩ : ByteArray)) := blk_cell hbox 3; have hfz_3 := blk_frozen hbox 3; have hcz_4 : w7.cell? ⟨gb7, 4, none⟩ = some (.int .u64 0) := blk_cell hbox 4; have hfz_4 := blk_frozen hbox 4; skip; clear hbox hb hg))
  change Code.wp _ _ _ _ (setV w7 gb7 k 0 0 ⟨#[]⟩ 0)
  have hT7 : Ty w7 gb7 31 := Ty.of BK7.out
  have n37 : gb3 ≠ gb7 := by have := N34.out; have := N47.out; omega
  have n47 : gb4 ≠ gb7 := by have := N47.out; omega
  have B3 := Aside0.mk (show (setV w7 gb7 k 0 0 ⟨#[]⟩ 0).heap[gb3]? = some (.cells #[.int .u8 k, .int .u64 u, .int .i64 i, .string s, .int .u64 m] 31 (0, 0)) from blk_far (blk_far (blk_far (blk_far (blk_far BK3.out n37 _) n37 _) n37 _) n37 _) n37 _)
  have B4 := Aside0.mk (show (setV w7 gb7 k 0 0 ⟨#[]⟩ 0).heap[gb4]? = some (.cells #[.int .u8 0, .int .u64 0, .int .i64 0, .string (⟨#[]⟩ : ByteArray), .int .u64 0] 31 (0, 0)) from blk_far (blk_far (blk_far (blk_far (blk_far BK4.out n47 _) n47 _) n47 _) n47 _) n47 _)
  have B7 := Aside0.mk (setV_blk (x0 := k) (x1 := 0) (x2 := 0) (s := ⟨#[]⟩) (x4 := 0) BK7.out)
  have HBW := Aside0.mk (setV_below (x0 := k) (x1 := 0) (x2 := 0) (s := ⟨#[]⟩) (x4 := 0) HB.out (show w.heap.size ≤ gb7 by have := G3.out; have := N34.out; have := N47.out; omega))
  have HRW := Aside0.mk (RowB.setV (x0 := k) (x1 := 0) (x2 := 0) (s := ⟨#[]⟩) (x4 := 0) HR3.out hT7)
  clear BK3 BK4 BK7 HB HR3 hT7 hcz_0 hfz_0 hcz_1 hfz_1 hcz_2 hfz_2 hcz_3 hfz_3 hcz_4 hfz_4
  generalize setV w7 gb7 k 0 0 ⟨#[]⟩ 0 = W at B3 B4 B7 HBW HRW
  go_wp2_with (first | (go_at_call 27; refine (HNUM.out W HRW.out).mono ?_; rintro e w6 ⟨⟨A6, c6, rfl, h1, h2⟩, mq, hw⟩; have hbq : Below W.heap.size W w6 := hw ▸ pw_below_drewN (Below.refl _ _) mq; have n3_ := Aside0.mk (blk_below B3.out hbq); have n4_ := Aside0.mk (blk_below B4.out hbq); have n7_ := Aside0.mk (blk_below B7.out hbq); have nb_ := Aside0.mk (below_step HBW.out hbq); have HR6 := Aside0.mk (h2.move fun b cur _ hc => hbq.block b (blk_lt hc)); have HC6 := Aside0.mk h1; clear B3 B4 B7 HBW HRW hbq hw h1 h2; have B3 := n3_; have B4 := n4_; have B7 := n7_; have HBW := nb_; clear n3_ n4_ n7_ nb_; have hc3_0 : w6.cell? ⟨gb3, 0, none⟩ = some (.int .u8 k) := blk_cell B3.out 0; have hc3_4 : w6.cell? ⟨gb3, 4, none⟩ = some (.int .u64 m) := blk_cell B3.out 4; have hc7_0 : w6.cell? ⟨gb7, 0, none⟩ = some (.int .u8 k) := blk_cell B7.out 0; have hf7_0 := blk_frozen B7.out 0; have hc4_0 : w6.cell? ⟨gb4, 0, none⟩ = some (.int .u8 0) := blk_cell B4.out 0; have hf4_0 := blk_frozen B4.out 0; have hc7_1 : w6.cell? ⟨gb7, 1, none⟩ = some (.int .u64 0) := blk_cell B7.out 1; have hf7_1 := blk_frozen B7.out 1; have hc4_1 : w6.cell? ⟨gb4, 1, none⟩ = some (.int .u64 0) := blk_cell B4.out 1; have hf4_1 := blk_frozen B4.out 1; have hc7_2 : w6.cell? ⟨gb7, 2, none⟩ = some (.int .i64 0) := blk_cell B7.out 2; have hf7_2 := blk_frozen B7.out 2; have hc4_2 : w6.cell? ⟨gb4, 2, none⟩ = some (.int .i64 0) := blk_cell B4.out 2; have hf4_2 := blk_frozen B4.out 2; have hc7_3 : w6.cell? ⟨gb7, 3, none⟩ = some (.string (⟨#[]⟩ : ByteArray)) := blk_cell B7.out 3; have hf7_3 := blk_frozen B7.out 3; have hc4_3 : w6.cell? ⟨gb4, 3, none⟩ = some (.string (⟨#[]⟩ : ByteArray)) := blk_cell B4.out 3; have hf4_3 := blk_frozen B4.out 3; have hc7_4 : w6.cell? ⟨gb7, 4, none⟩ = some (.int .u64 0) := blk_cell B7.out 4; have hf7_4 := blk_frozen B7.out 4; have hc4_4 : w6.cell? ⟨gb4, 4, none⟩ = some (.int .u64 0) := blk_cell B4.out 4; have hf4_4 := blk_frozen B4.out 4; have n73 := Ne.symm n37; have n74 := Ne.symm n47; have n34 : gb3 ≠ gb4 := (by have := N34.out; omega); have n43 := Ne.symm n34))
  have GW4 : w.heap.size ≤ gb4 := by have := G3.out; have := N34.out; omega
  have GW7 : w.heap.size ≤ gb7 := by have := N47.out; omega
  refine bodyPost_ret (results_list (rs := [.cell 4 31, .tmp 5, .tmp 6]) rfl (by simp) (.cell gb4 31 #[.int .u8 k, .int .u64 0, .int .i64 n, .string (⟨#[]⟩ : ByteArray), .int .u64 0] (0, 0) _ rfl ?hgr Tryd.underlying31 rfl (by kernel_rfl) (.tmp (.tmp .nil)))) rfl ?_
  case hgr => exact (blk_put (blk_put (blk_put (blk_put (blk_put (blk_far B4.out n47 _) 0 _ rfl) 1 _ rfl) 2 _ rfl) 3 _ rfl) 4 _ rfl)
  have hrow := HR6.out
  have t4 : Ty w6 gb4 31 := Ty.of B4.out
  have t7 : Ty w6 gb7 31 := Ty.of B7.out
  exact ⟨A6, c6, rfl, HC6.out, (RowB.set1 (RowB.set1 (RowB.set1 (RowB.set1 (RowB.set1 (RowB.set1 hrow t7 2 _) (t4.set _ _ _) 0 _) ((t4.set _ _ _).set _ _ _) 1 _) (((t4.set _ _ _).set _ _ _).set _ _ _) 2 _) ((((t4.set _ _ _).set _ _ _).set _ _ _).set _ _ _) 3 _) (((((t4.set _ _ _).set _ _ _).set _ _ _).set _ _ _).set _ _ _) 4 _), ((((((HBW.out.setCell (p := ⟨gb7, 2, none⟩) GW7 _).setCell (p := ⟨gb4, 0, none⟩) GW4 _).setCell (p := ⟨gb4, 1, none⟩) GW4 _).setCell (p := ⟨gb4, 2, none⟩) GW4 _).setCell (p := ⟨gb4, 3, none⟩) GW4 _).setCell (p := ⟨gb4, 4, none⟩) GW4 _)⟩
set_option maxHeartbeats 8000000 in
set_option maxRecDepth 100000 in
theorem tk1m (N : Nat) (A : Option Addr) (c : Nat) (l : List Int) (k u i m : Int) (s : ByteArray) (w : World) (hc : l.length ≤ c) (hl : l.length ≤ 1000000) (hh : ∀ x ∈ l, 0 ≤ x ∧ x ≤ 255) (hR0 : RowB N w A l) (hk0 : 0 ≤ k) (hk1 : k ≤ 255) (hm0 : 0 ≤ m) (hm1 : m ≤ 18446744073709551615) (hk : k % 4 = 1) (n : Int) (r : List Int) (hi : inum l = some (n, true, r)) (hn0 : 0 ≤ n) (hn1 : n ≤ 18446744073709551615) (hnm : n < 9223372036854775808) :
    Calls Tryd.prog 10 #[.slice A l.length c, .agg #[.int .u8 k, .int .u64 u, .int .i64 i, .string s, .int .u64 m]] w fun e w' => ∃ A' c', e = .returned (.tuple #[.agg #[.int .u8 k, .int .u64 0, .int .i64 (-1 - n), .string (⟨#[]⟩ : ByteArray), .int .u64 0], .slice A' r.length c', .bool true]) ∧ r.length ≤ c' ∧ RowB N w' A' r ∧ Below w.heap.size w w' := by
  have hnum := fun (W : World) (hR : RowB N W A l) => ref_number N A c l W hc hl hh hR
  simp only [hi] at hnum
  have HNUM := Aside0.mk hnum
  have hR := Aside0.mk hR0
  have hkt : Int.tmod k 4 = k % 4 := Int.tmod_eq_emod_of_nonneg hk0
  have hw1 : wrap64 n = n := by unfold wrap64; omega
  have hw2 : wrap64 (-1 - n) = -1 - n := by unfold wrap64; omega
  clear hnum hi hR0 hh
  generalize l.length = ll at HNUM hc hl ⊢
  go_enter Tryd.func10, Tryd.ntmps10
  go_upto_region 2 with (first | ((with_reducible refine gate_dst (N := 3) rfl ?_); (try (refine gate_guard (by rfl) ?_; dsimp only)); refine box_event ?hg (N := 3) ?hd (cs := #[.int .u8 k, .int .u64 u, .int .i64 i, .string s, .int .u64 m]) (t := 31) ?hr ?_; (case hd => rfl); (case hg => rfl); (case hr => first | (go_simp; done) | (go_simp; rfl)); intro gb3 hg w3 hbox hb; have BK3 := Aside0.mk hbox; have G3 := Aside0.mk (Nat.le_of_eq hg.symm : w.heap.size ≤ gb3); have HB := Aside0.mk hb; have HR3 := Aside0.mk (hR.out.move fun b cur _ hc => hb.block b (blk_lt hc)); clear hbox hb hg) | ((with_reducible refine gate_dst (N := 4) rfl ?_); (try (refine gate_guard (by rfl) ?_; dsimp only)); refine box_event ?hg (N := 4) ?hd (cs := #[.int .u8 0, .int .u64 0, .int .i64 0, .string (⟨#[]⟩ : ByteArray), .int .u64 0]) (t := 31) ?hr ?_; (case hd => rfl); (case hg => rfl); (case hr => first | (go_simp; done) | (go_simp; rfl)); intro gb4 hg w4 hbox hb; have n_ := Aside0.mk (blk_below BK3.out hb); have N34 := Aside0.mk (show gb3 < gb4 by have := blk_lt BK3.out; omega); clear BK3; have BK3 := n_; clear n_; have BK4 := Aside0.mk hbox; have n_ := Aside0.mk (below_step HB.out hb); clear HB; have HB := n_; clear n_; have n_ := Aside0.mk (HR3.out.move fun b cur _ hc => hb.block b (blk_lt hc)); clear HR3; have HR3 := n_; clear n_; have hc3 : w4.cell? ⟨gb3, 0, none⟩ = some (.int .u8 k) := blk_cell BK3.out 0; clear hbox hb hg) | ((with_reducible refine gate_dst (N := 7) rfl ?_); (try (refine gate_guard (by rfl) ?_; dsimp only)); refine box_event ?hg (N := 7) ?hd (cs := #[.int .u8 0, .int .u64 0, .int .i64 0, .string (⟨#[]⟩ : ByteArray), .int .u64 0]) (t := 31) ?hr ?_; (case hd => rfl); (case hg => rfl); (case hr => first | (go_simp; done) | (go_simp; rfl)); intro gb7 hg w7 hbox hb; have N47 := Aside0.mk (show gb4 < gb7 by have := blk_lt BK4.out; omega); have n_ := Aside0.mk (blk_below BK3.out hb); clear BK3; have BK3 := n_; clear n_; have n_ := Aside0.mk (blk_below BK4.out hb); clear BK4; have BK4 := n_; clear n_; have BK7 := Aside0.mk hbox; have n_ := Aside0.mk (below_step HB.out hb); clear HB; have HB := n_; clear n_; have n_ := Aside0.mk (HR3.out.move fun b cur _ hc => hb.block b (blk_lt hc)); clear HR3; have HR3 := n_; clear n_; clear hc3; have hcz_0 : w7.cell? ⟨gb7, 0, none⟩ = some (.int .u8 0) := blk_cell hbox 0; have hfz_0 := blk_frozen hbox 0; have hcz_1 : w7.cell? ⟨gb7, 1, none⟩ = some (.int .u64 0) := blk_cell hbox 1; have hfz_1 := blk_frozen hbox 1; have hcz_2 : w7.cell? ⟨gb7, 2, none⟩ = some (.int .i64 0) := blk_cell hbox 2; have hfz_2 := blk_frozen hbox 2; have hcz_3 : w7.cell? ⟨gb7, 3, none⟩ = some (.string (⟨#[]⟩ : ByteArray)) := blk_cell hbox 3; have hfz_3 := blk_frozen hbox 3; have hcz_4 : w7.cell? ⟨gb7, 4, none⟩ = some (.int .u64 0) := blk_cell hbox 4; have hfz_4 := blk_frozen hbox 4; skip; clear hbox hb hg))
  change Code.wp _ _ _ _ (setV w7 gb7 k 0 0 ⟨#[]⟩ 0)
  have hT7 : Ty w7 gb7 31 := Ty.of BK7.out
  have n37 : gb3 ≠ gb7 := by have := N34.out; have := N47.out; omega
  have n47 : gb4 ≠ gb7 := by have := N47.out; omega
  have B3 := Aside0.mk (show (setV w7 gb7 k 0 0 ⟨#[]⟩ 0).heap[gb3]? = some (.cells #[.int .u8 k, .int .u64 u, .int .i64 i, .string s, .int .u64 m] 31 (0, 0)) from blk_far (blk_far (blk_far (blk_far (blk_far BK3.out n37 _) n37 _) n37 _) n37 _) n37 _)
  have B4 := Aside0.mk (show (setV w7 gb7 k 0 0 ⟨#[]⟩ 0).heap[gb4]? = some (.cells #[.int .u8 0, .int .u64 0, .int .i64 0, .string (⟨#[]⟩ : ByteArray), .int .u64 0] 31 (0, 0)) from blk_far (blk_far (blk_far (blk_far (blk_far BK4.out n47 _) n47 _) n47 _) n47 _) n47 _)
  have B7 := Aside0.mk (setV_blk (x0 := k) (x1 := 0) (x2 := 0) (s := ⟨#[]⟩) (x4 := 0) BK7.out)
  have HBW := Aside0.mk (setV_below (x0 := k) (x1 := 0) (x2 := 0) (s := ⟨#[]⟩) (x4 := 0) HB.out (show w.heap.size ≤ gb7 by have := G3.out; have := N34.out; have := N47.out; omega))
  have HRW := Aside0.mk (RowB.setV (x0 := k) (x1 := 0) (x2 := 0) (s := ⟨#[]⟩) (x4 := 0) HR3.out hT7)
  clear BK3 BK4 BK7 HB HR3 hT7 hcz_0 hfz_0 hcz_1 hfz_1 hcz_2 hfz_2 hcz_3 hfz_3 hcz_4 hfz_4
  generalize setV w7 gb7 k 0 0 ⟨#[]⟩ 0 = W at B3 B4 B7 HBW HRW
  go_wp2_with (first | (go_at_call 27; refine (HNUM.out W HRW.out).mono ?_; rintro e w6 ⟨⟨A6, c6, rfl, h1, h2⟩, mq, hw⟩; have hbq : Below W.heap.size W w6 := hw ▸ pw_below_drewN (Below.refl _ _) mq; have n3_ := Aside0.mk (blk_below B3.out hbq); have n4_ := Aside0.mk (blk_below B4.out hbq); have n7_ := Aside0.mk (blk_below B7.out hbq); have nb_ := Aside0.mk (below_step HBW.out hbq); have HR6 := Aside0.mk (h2.move fun b cur _ hc => hbq.block b (blk_lt hc)); have HC6 := Aside0.mk h1; clear B3 B4 B7 HBW HRW hbq hw h1 h2; have B3 := n3_; have B4 := n4_; have B7 := n7_; have HBW := nb_; clear n3_ n4_ n7_ nb_; have hc3_0 : w6.cell? ⟨gb3, 0, none⟩ = some (.int .u8 k) := blk_cell B3.out 0; have hc3_4 : w6.cell? ⟨gb3, 4, none⟩ = some (.int .u64 m) := blk_cell B3.out 4; have hc7_0 : w6.cell? ⟨gb7, 0, none⟩ = some (.int .u8 k) := blk_cell B7.out 0; have hf7_0 := blk_frozen B7.out 0; have hc4_0 : w6.cell? ⟨gb4, 0, none⟩ = some (.int .u8 0) := blk_cell B4.out 0; have hf4_0 := blk_frozen B4.out 0; have hc7_1 : w6.cell? ⟨gb7, 1, none⟩ = some (.int .u64 0) := blk_cell B7.out 1; have hf7_1 := blk_frozen B7.out 1; have hc4_1 : w6.cell? ⟨gb4, 1, none⟩ = some (.int .u64 0) := blk_cell B4.out 1; have hf4_1 := blk_frozen B4.out 1; have hc7_2 : w6.cell? ⟨gb7, 2, none⟩ = some (.int .i64 0) := blk_cell B7.out 2; have hf7_2 := blk_frozen B7.out 2; have hc4_2 : w6.cell? ⟨gb4, 2, none⟩ = some (.int .i64 0) := blk_cell B4.out 2; have hf4_2 := blk_frozen B4.out 2; have hc7_3 : w6.cell? ⟨gb7, 3, none⟩ = some (.string (⟨#[]⟩ : ByteArray)) := blk_cell B7.out 3; have hf7_3 := blk_frozen B7.out 3; have hc4_3 : w6.cell? ⟨gb4, 3, none⟩ = some (.string (⟨#[]⟩ : ByteArray)) := blk_cell B4.out 3; have hf4_3 := blk_frozen B4.out 3; have hc7_4 : w6.cell? ⟨gb7, 4, none⟩ = some (.int .u64 0) := blk_cell B7.out 4; have hf7_4 := blk_frozen B7.out 4; have hc4_4 : w6.cell? ⟨gb4, 4, none⟩ = some (.int .u64 0) := blk_cell B4.out 4; have hf4_4 := blk_frozen B4.out 4; have n73 := Ne.symm n37; have n74 := Ne.symm n47; have n34 : gb3 ≠ gb4 := (by have := N34.out; omega); have n43 := Ne.symm n34))
  have GW4 : w.heap.size ≤ gb4 := by have := G3.out; have := N34.out; omega
  have GW7 : w.heap.size ≤ gb7 := by have := N47.out; omega
  refine bodyPost_ret (results_list (rs := [.cell 4 31, .tmp 5, .tmp 6]) rfl (by simp) (.cell gb4 31 #[.int .u8 k, .int .u64 0, .int .i64 (-1 - n), .string (⟨#[]⟩ : ByteArray), .int .u64 0] (0, 0) _ rfl ?hgr Tryd.underlying31 rfl (by kernel_rfl) (.tmp (.tmp .nil)))) rfl ?_
  case hgr => exact (blk_put (blk_put (blk_put (blk_put (blk_put (blk_far (blk_far B4.out n47 _) n47 _) 0 _ rfl) 1 _ rfl) 2 _ rfl) 3 _ rfl) 4 _ rfl)
  have hrow := HR6.out
  have t4 : Ty w6 gb4 31 := Ty.of B4.out
  have t7 : Ty w6 gb7 31 := Ty.of B7.out
  exact ⟨A6, c6, rfl, HC6.out, (RowB.set1 (RowB.set1 (RowB.set1 (RowB.set1 (RowB.set1 (RowB.set1 (RowB.set1 hrow t7 2 _) (t7.set _ _ _) 2 _) ((t4.set _ _ _).set _ _ _) 0 _) (((t4.set _ _ _).set _ _ _).set _ _ _) 1 _) ((((t4.set _ _ _).set _ _ _).set _ _ _).set _ _ _) 2 _) (((((t4.set _ _ _).set _ _ _).set _ _ _).set _ _ _).set _ _ _) 3 _) ((((((t4.set _ _ _).set _ _ _).set _ _ _).set _ _ _).set _ _ _).set _ _ _) 4 _), (((((((HBW.out.setCell (p := ⟨gb7, 2, none⟩) GW7 _).setCell (p := ⟨gb7, 2, none⟩) GW7 _).setCell (p := ⟨gb4, 0, none⟩) GW4 _).setCell (p := ⟨gb4, 1, none⟩) GW4 _).setCell (p := ⟨gb4, 2, none⟩) GW4 _).setCell (p := ⟨gb4, 3, none⟩) GW4 _).setCell (p := ⟨gb4, 4, none⟩) GW4 _)⟩
set_option maxHeartbeats 8000000 in
set_option maxRecDepth 100000 in
theorem tk1b (N : Nat) (A : Option Addr) (c : Nat) (l : List Int) (k u i m : Int) (s : ByteArray) (w : World) (hc : l.length ≤ c) (hl : l.length ≤ 1000000) (hh : ∀ x ∈ l, 0 ≤ x ∧ x ≤ 255) (hR0 : RowB N w A l) (hk0 : 0 ≤ k) (hk1 : k ≤ 255) (hm0 : 0 ≤ m) (hm1 : m ≤ 18446744073709551615) (hk : k % 4 = 1) (n : Int) (mk : Bool) (r : List Int) (hi : inum l = some (n, mk, r)) (hn0 : 0 ≤ n) (hn1 : n ≤ 18446744073709551615) (hnm : 9223372036854775808 ≤ n) :
    Calls Tryd.prog 10 #[.slice A l.length c, .agg #[.int .u8 k, .int .u64 u, .int .i64 i, .string s, .int .u64 m]] w fun e w' => e = .returned (.tuple #[.agg #[.int .u8 k, .int .u64 0, .int .i64 0, .string (⟨#[]⟩ : ByteArray), .int .u64 0], .slice none 0 0, .bool false]) ∧ Below w.heap.size w w' := by
  have hnum := fun (W : World) (hR : RowB N W A l) => ref_number N A c l W hc hl hh hR
  simp only [hi] at hnum
  have HNUM := Aside0.mk hnum
  have hR := Aside0.mk hR0
  have hkt : Int.tmod k 4 = k % 4 := Int.tmod_eq_emod_of_nonneg hk0
  have hnb : decide (n < 9223372036854775808) = false := decide_eq_false (by omega)
  clear hnum hi hR0 hh
  generalize l.length = ll at HNUM hc hl ⊢
  go_enter Tryd.func10, Tryd.ntmps10
  go_upto_region 2 with (first | ((with_reducible refine gate_dst (N := 3) rfl ?_); (try (refine gate_guard (by rfl) ?_; dsimp only)); refine box_event ?hg (N := 3) ?hd (cs := #[.int .u8 k, .int .u64 u, .int .i64 i, .string s, .int .u64 m]) (t := 31) ?hr ?_; (case hd => rfl); (case hg => rfl); (case hr => first | (go_simp; done) | (go_simp; rfl)); intro gb3 hg w3 hbox hb; have BK3 := Aside0.mk hbox; have G3 := Aside0.mk (Nat.le_of_eq hg.symm : w.heap.size ≤ gb3); have HB := Aside0.mk hb; have HR3 := Aside0.mk (hR.out.move fun b cur _ hc => hb.block b (blk_lt hc)); clear hbox hb hg) | ((with_reducible refine gate_dst (N := 4) rfl ?_); (try (refine gate_guard (by rfl) ?_; dsimp only)); refine box_event ?hg (N := 4) ?hd (cs := #[.int .u8 0, .int .u64 0, .int .i64 0, .string (⟨#[]⟩ : ByteArray), .int .u64 0]) (t := 31) ?hr ?_; (case hd => rfl); (case hg => rfl); (case hr => first | (go_simp; done) | (go_simp; rfl)); intro gb4 hg w4 hbox hb; have n_ := Aside0.mk (blk_below BK3.out hb); have N34 := Aside0.mk (show gb3 < gb4 by have := blk_lt BK3.out; omega); clear BK3; have BK3 := n_; clear n_; have BK4 := Aside0.mk hbox; have n_ := Aside0.mk (below_step HB.out hb); clear HB; have HB := n_; clear n_; have n_ := Aside0.mk (HR3.out.move fun b cur _ hc => hb.block b (blk_lt hc)); clear HR3; have HR3 := n_; clear n_; have hc3 : w4.cell? ⟨gb3, 0, none⟩ = some (.int .u8 k) := blk_cell BK3.out 0; clear hbox hb hg) | ((with_reducible refine gate_dst (N := 7) rfl ?_); (try (refine gate_guard (by rfl) ?_; dsimp only)); refine box_event ?hg (N := 7) ?hd (cs := #[.int .u8 0, .int .u64 0, .int .i64 0, .string (⟨#[]⟩ : ByteArray), .int .u64 0]) (t := 31) ?hr ?_; (case hd => rfl); (case hg => rfl); (case hr => first | (go_simp; done) | (go_simp; rfl)); intro gb7 hg w7 hbox hb; have N47 := Aside0.mk (show gb4 < gb7 by have := blk_lt BK4.out; omega); have n_ := Aside0.mk (blk_below BK3.out hb); clear BK3; have BK3 := n_; clear n_; have n_ := Aside0.mk (blk_below BK4.out hb); clear BK4; have BK4 := n_; clear n_; have BK7 := Aside0.mk hbox; have n_ := Aside0.mk (below_step HB.out hb); clear HB; have HB := n_; clear n_; have n_ := Aside0.mk (HR3.out.move fun b cur _ hc => hb.block b (blk_lt hc)); clear HR3; have HR3 := n_; clear n_; clear hc3; have hcz_0 : w7.cell? ⟨gb7, 0, none⟩ = some (.int .u8 0) := blk_cell hbox 0; have hfz_0 := blk_frozen hbox 0; have hcz_1 : w7.cell? ⟨gb7, 1, none⟩ = some (.int .u64 0) := blk_cell hbox 1; have hfz_1 := blk_frozen hbox 1; have hcz_2 : w7.cell? ⟨gb7, 2, none⟩ = some (.int .i64 0) := blk_cell hbox 2; have hfz_2 := blk_frozen hbox 2; have hcz_3 : w7.cell? ⟨gb7, 3, none⟩ = some (.string (⟨#[]⟩ : ByteArray)) := blk_cell hbox 3; have hfz_3 := blk_frozen hbox 3; have hcz_4 : w7.cell? ⟨gb7, 4, none⟩ = some (.int .u64 0) := blk_cell hbox 4; have hfz_4 := blk_frozen hbox 4; skip; clear hbox hb hg))
  change Code.wp _ _ _ _ (setV w7 gb7 k 0 0 ⟨#[]⟩ 0)
  have hT7 : Ty w7 gb7 31 := Ty.of BK7.out
  have n37 : gb3 ≠ gb7 := by have := N34.out; have := N47.out; omega
  have n47 : gb4 ≠ gb7 := by have := N47.out; omega
  have B3 := Aside0.mk (show (setV w7 gb7 k 0 0 ⟨#[]⟩ 0).heap[gb3]? = some (.cells #[.int .u8 k, .int .u64 u, .int .i64 i, .string s, .int .u64 m] 31 (0, 0)) from blk_far (blk_far (blk_far (blk_far (blk_far BK3.out n37 _) n37 _) n37 _) n37 _) n37 _)
  have B4 := Aside0.mk (show (setV w7 gb7 k 0 0 ⟨#[]⟩ 0).heap[gb4]? = some (.cells #[.int .u8 0, .int .u64 0, .int .i64 0, .string (⟨#[]⟩ : ByteArray), .int .u64 0] 31 (0, 0)) from blk_far (blk_far (blk_far (blk_far (blk_far BK4.out n47 _) n47 _) n47 _) n47 _) n47 _)
  have B7 := Aside0.mk (setV_blk (x0 := k) (x1 := 0) (x2 := 0) (s := ⟨#[]⟩) (x4 := 0) BK7.out)
  have HBW := Aside0.mk (setV_below (x0 := k) (x1 := 0) (x2 := 0) (s := ⟨#[]⟩) (x4 := 0) HB.out (show w.heap.size ≤ gb7 by have := G3.out; have := N34.out; have := N47.out; omega))
  have HRW := Aside0.mk (RowB.setV (x0 := k) (x1 := 0) (x2 := 0) (s := ⟨#[]⟩) (x4 := 0) HR3.out hT7)
  clear BK3 BK4 BK7 HB HR3 hT7 hcz_0 hfz_0 hcz_1 hfz_1 hcz_2 hfz_2 hcz_3 hfz_3 hcz_4 hfz_4
  generalize setV w7 gb7 k 0 0 ⟨#[]⟩ 0 = W at B3 B4 B7 HBW HRW
  go_wp2_with (first | (go_at_call 27; refine (HNUM.out W HRW.out).mono ?_; rintro e w6 ⟨⟨A6, c6, rfl, h1, h2⟩, mq, hw⟩; have hbq : Below W.heap.size W w6 := hw ▸ pw_below_drewN (Below.refl _ _) mq; have n3_ := Aside0.mk (blk_below B3.out hbq); have n4_ := Aside0.mk (blk_below B4.out hbq); have n7_ := Aside0.mk (blk_below B7.out hbq); have nb_ := Aside0.mk (below_step HBW.out hbq); have HR6 := Aside0.mk (h2.move fun b cur _ hc => hbq.block b (blk_lt hc)); have HC6 := Aside0.mk h1; clear B3 B4 B7 HBW HRW hbq hw h1 h2; have B3 := n3_; have B4 := n4_; have B7 := n7_; have HBW := nb_; clear n3_ n4_ n7_ nb_; have hc3_0 : w6.cell? ⟨gb3, 0, none⟩ = some (.int .u8 k) := blk_cell B3.out 0; have hc3_4 : w6.cell? ⟨gb3, 4, none⟩ = some (.int .u64 m) := blk_cell B3.out 4; have hc7_0 : w6.cell? ⟨gb7, 0, none⟩ = some (.int .u8 k) := blk_cell B7.out 0; have hf7_0 := blk_frozen B7.out 0; have hc4_0 : w6.cell? ⟨gb4, 0, none⟩ = some (.int .u8 0) := blk_cell B4.out 0; have hf4_0 := blk_frozen B4.out 0; have hc7_1 : w6.cell? ⟨gb7, 1, none⟩ = some (.int .u64 0) := blk_cell B7.out 1; have hf7_1 := blk_frozen B7.out 1; have hc4_1 : w6.cell? ⟨gb4, 1, none⟩ = some (.int .u64 0) := blk_cell B4.out 1; have hf4_1 := blk_frozen B4.out 1; have hc7_2 : w6.cell? ⟨gb7, 2, none⟩ = some (.int .i64 0) := blk_cell B7.out 2; have hf7_2 := blk_frozen B7.out 2; have hc4_2 : w6.cell? ⟨gb4, 2, none⟩ = some (.int .i64 0) := blk_cell B4.out 2; have hf4_2 := blk_frozen B4.out 2; have hc7_3 : w6.cell? ⟨gb7, 3, none⟩ = some (.string (⟨#[]⟩ : ByteArray)) := blk_cell B7.out 3; have hf7_3 := blk_frozen B7.out 3; have hc4_3 : w6.cell? ⟨gb4, 3, none⟩ = some (.string (⟨#[]⟩ : ByteArray)) := blk_cell B4.out 3; have hf4_3 := blk_frozen B4.out 3; have hc7_4 : w6.cell? ⟨gb7, 4, none⟩ = some (.int .u64 0) := blk_cell B7.out 4; have hf7_4 := blk_frozen B7.out 4; have hc4_4 : w6.cell? ⟨gb4, 4, none⟩ = some (.int .u64 0) := blk_cell B4.out 4; have hf4_4 := blk_frozen B4.out 4; have n73 := Ne.symm n37; have n74 := Ne.symm n47; have n34 : gb3 ≠ gb4 := (by have := N34.out; omega); have n43 := Ne.symm n34))
  have GW4 : w.heap.size ≤ gb4 := by have := G3.out; have := N34.out; omega
  have GW7 : w.heap.size ≤ gb7 := by have := N47.out; omega
  refine bodyPost_ret (results_list (rs := [.cell 4 31, .tmp 5, .tmp 6]) rfl (by simp) (.cell gb4 31 #[.int .u8 k, .int .u64 0, .int .i64 0, .string (⟨#[]⟩ : ByteArray), .int .u64 0] (0, 0) _ rfl ?hgr Tryd.underlying31 rfl (by kernel_rfl) (.tmp (.tmp .nil)))) rfl ?_
  case hgr => exact (blk_put (blk_put (blk_put (blk_put (blk_put B4.out 0 _ rfl) 1 _ rfl) 2 _ rfl) 3 _ rfl) 4 _ rfl)
  exact ⟨rfl, (((((HBW.out.setCell (p := ⟨gb4, 0, none⟩) GW4 _).setCell (p := ⟨gb4, 1, none⟩) GW4 _).setCell (p := ⟨gb4, 2, none⟩) GW4 _).setCell (p := ⟨gb4, 3, none⟩) GW4 _).setCell (p := ⟨gb4, 4, none⟩) GW4 _)⟩
set_option maxHeartbeats 8000000 in
set_option maxRecDepth 100000 in
theorem tk2 (N : Nat) (A : Option Addr) (c : Nat) (l : List Int) (k u i m : Int) (s : ByteArray) (w : World) (hc : l.length ≤ c) (hl : l.length ≤ 1000000) (hh : ∀ x ∈ l, 0 ≤ x ∧ x ≤ 255) (hR0 : RowB N w A l) (hk0 : 0 ≤ k) (hk1 : k ≤ 255) (hm0 : 0 ≤ m) (hm1 : m ≤ 18446744073709551615) (hk : k % 4 = 2) (n : Int) (r : List Int) (hi : inum l = some (n, false, r)) (hn0 : 0 ≤ n) (hn1 : n ≤ 18446744073709551615) (hnm : n ≤ 1) :
    Calls Tryd.prog 10 #[.slice A l.length c, .agg #[.int .u8 k, .int .u64 u, .int .i64 i, .string s, .int .u64 m]] w fun e w' => ∃ A' c', e = .returned (.tuple #[.agg #[.int .u8 k, .int .u64 n, .int .i64 0, .string (⟨#[]⟩ : ByteArray), .int .u64 0], .slice A' r.length c', .bool true]) ∧ r.length ≤ c' ∧ RowB N w' A' r ∧ Below w.heap.size w w' := by
  have hnum := fun (W : World) (hR : RowB N W A l) => ref_number N A c l W hc hl hh hR
  simp only [hi] at hnum
  have HNUM := Aside0.mk hnum
  have hR := Aside0.mk hR0
  have hkt : Int.tmod k 4 = k % 4 := Int.tmod_eq_emod_of_nonneg hk0
  clear hnum hi hR0 hh
  generalize l.length = ll at HNUM hc hl ⊢
  go_enter Tryd.func10, Tryd.ntmps10
  go_upto_region 2 with (first | ((with_reducible refine gate_dst (N := 3) rfl ?_); (try (refine gate_guard (by rfl) ?_; dsimp only)); refine box_event ?hg (N := 3) ?hd (cs := #[.int .u8 k, .int .u64 u, .int .i64 i, .string s, .int .u64 m]) (t := 31) ?hr ?_; (case hd => rfl); (case hg => rfl); (case hr => first | (go_simp; done) | (go_simp; rfl)); intro gb3 hg w3 hbox hb; have BK3 := Aside0.mk hbox; have G3 := Aside0.mk (Nat.le_of_eq hg.symm : w.heap.size ≤ gb3); have HB := Aside0.mk hb; have HR3 := Aside0.mk (hR.out.move fun b cur _ hc => hb.block b (blk_lt hc)); clear hbox hb hg) | ((with_reducible refine gate_dst (N := 4) rfl ?_); (try (refine gate_guard (by rfl) ?_; dsimp only)); refine box_event ?hg (N := 4) ?hd (cs := #[.int .u8 0, .int .u64 0, .int .i64 0, .string (⟨#[]⟩ : ByteArray), .int .u64 0]) (t := 31) ?hr ?_; (case hd => rfl); (case hg => rfl); (case hr => first | (go_simp; done) | (go_simp; rfl)); intro gb4 hg w4 hbox hb; have n_ := Aside0.mk (blk_below BK3.out hb); have N34 := Aside0.mk (show gb3 < gb4 by have := blk_lt BK3.out; omega); clear BK3; have BK3 := n_; clear n_; have BK4 := Aside0.mk hbox; have n_ := Aside0.mk (below_step HB.out hb); clear HB; have HB := n_; clear n_; have n_ := Aside0.mk (HR3.out.move fun b cur _ hc => hb.block b (blk_lt hc)); clear HR3; have HR3 := n_; clear n_; have hc3 : w4.cell? ⟨gb3, 0, none⟩ = some (.int .u8 k) := blk_cell BK3.out 0; clear hbox hb hg) | ((with_reducible refine gate_dst (N := 7) rfl ?_); (try (refine gate_guard (by rfl) ?_; dsimp only)); refine box_event ?hg (N := 7) ?hd (cs := #[.int .u8 0, .int .u64 0, .int .i64 0, .string (⟨#[]⟩ : ByteArray), .int .u64 0]) (t := 31) ?hr ?_; (case hd => rfl); (case hg => rfl); (case hr => first | (go_simp; done) | (go_simp; rfl)); intro gb7 hg w7 hbox hb; have N47 := Aside0.mk (show gb4 < gb7 by have := blk_lt BK4.out; omega); have n_ := Aside0.mk (blk_below BK3.out hb); clear BK3; have BK3 := n_; clear n_; have n_ := Aside0.mk (blk_below BK4.out hb); clear BK4; have BK4 := n_; clear n_; have BK7 := Aside0.mk hbox; have n_ := Aside0.mk (below_step HB.out hb); clear HB; have HB := n_; clear n_; have n_ := Aside0.mk (HR3.out.move fun b cur _ hc => hb.block b (blk_lt hc)); clear HR3; have HR3 := n_; clear n_; clear hc3; have hcz_0 : w7.cell? ⟨gb7, 0, none⟩ = some (.int .u8 0) := blk_cell hbox 0; have hfz_0 := blk_frozen hbox 0; have hcz_1 : w7.cell? ⟨gb7, 1, none⟩ = some (.int .u64 0) := blk_cell hbox 1; have hfz_1 := blk_frozen hbox 1; have hcz_2 : w7.cell? ⟨gb7, 2, none⟩ = some (.int .i64 0) := blk_cell hbox 2; have hfz_2 := blk_frozen hbox 2; have hcz_3 : w7.cell? ⟨gb7, 3, none⟩ = some (.string (⟨#[]⟩ : ByteArray)) := blk_cell hbox 3; have hfz_3 := blk_frozen hbox 3; have hcz_4 : w7.cell? ⟨gb7, 4, none⟩ = some (.int .u64 0) := blk_cell hbox 4; have hfz_4 := blk_frozen hbox 4; skip; clear hbox hb hg))
  change Code.wp _ _ _ _ (setV w7 gb7 k 0 0 ⟨#[]⟩ 0)
  have hT7 : Ty w7 gb7 31 := Ty.of BK7.out
  have n37 : gb3 ≠ gb7 := by have := N34.out; have := N47.out; omega
  have n47 : gb4 ≠ gb7 := by have := N47.out; omega
  have B3 := Aside0.mk (show (setV w7 gb7 k 0 0 ⟨#[]⟩ 0).heap[gb3]? = some (.cells #[.int .u8 k, .int .u64 u, .int .i64 i, .string s, .int .u64 m] 31 (0, 0)) from blk_far (blk_far (blk_far (blk_far (blk_far BK3.out n37 _) n37 _) n37 _) n37 _) n37 _)
  have B4 := Aside0.mk (show (setV w7 gb7 k 0 0 ⟨#[]⟩ 0).heap[gb4]? = some (.cells #[.int .u8 0, .int .u64 0, .int .i64 0, .string (⟨#[]⟩ : ByteArray), .int .u64 0] 31 (0, 0)) from blk_far (blk_far (blk_far (blk_far (blk_far BK4.out n47 _) n47 _) n47 _) n47 _) n47 _)
  have B7 := Aside0.mk (setV_blk (x0 := k) (x1 := 0) (x2 := 0) (s := ⟨#[]⟩) (x4 := 0) BK7.out)
  have HBW := Aside0.mk (setV_below (x0 := k) (x1 := 0) (x2 := 0) (s := ⟨#[]⟩) (x4 := 0) HB.out (show w.heap.size ≤ gb7 by have := G3.out; have := N34.out; have := N47.out; omega))
  have HRW := Aside0.mk (RowB.setV (x0 := k) (x1 := 0) (x2 := 0) (s := ⟨#[]⟩) (x4 := 0) HR3.out hT7)
  clear BK3 BK4 BK7 HB HR3 hT7 hcz_0 hfz_0 hcz_1 hfz_1 hcz_2 hfz_2 hcz_3 hfz_3 hcz_4 hfz_4
  generalize setV w7 gb7 k 0 0 ⟨#[]⟩ 0 = W at B3 B4 B7 HBW HRW
  go_wp2_with (first | (go_at_call 27; refine (HNUM.out W HRW.out).mono ?_; rintro e w6 ⟨⟨A6, c6, rfl, h1, h2⟩, mq, hw⟩; have hbq : Below W.heap.size W w6 := hw ▸ pw_below_drewN (Below.refl _ _) mq; have n3_ := Aside0.mk (blk_below B3.out hbq); have n4_ := Aside0.mk (blk_below B4.out hbq); have n7_ := Aside0.mk (blk_below B7.out hbq); have nb_ := Aside0.mk (below_step HBW.out hbq); have HR6 := Aside0.mk (h2.move fun b cur _ hc => hbq.block b (blk_lt hc)); have HC6 := Aside0.mk h1; clear B3 B4 B7 HBW HRW hbq hw h1 h2; have B3 := n3_; have B4 := n4_; have B7 := n7_; have HBW := nb_; clear n3_ n4_ n7_ nb_; have hc3_0 : w6.cell? ⟨gb3, 0, none⟩ = some (.int .u8 k) := blk_cell B3.out 0; have hc3_4 : w6.cell? ⟨gb3, 4, none⟩ = some (.int .u64 m) := blk_cell B3.out 4; have hc7_0 : w6.cell? ⟨gb7, 0, none⟩ = some (.int .u8 k) := blk_cell B7.out 0; have hf7_0 := blk_frozen B7.out 0; have hc4_0 : w6.cell? ⟨gb4, 0, none⟩ = some (.int .u8 0) := blk_cell B4.out 0; have hf4_0 := blk_frozen B4.out 0; have hc7_1 : w6.cell? ⟨gb7, 1, none⟩ = some (.int .u64 0) := blk_cell B7.out 1; have hf7_1 := blk_frozen B7.out 1; have hc4_1 : w6.cell? ⟨gb4, 1, none⟩ = some (.int .u64 0) := blk_cell B4.out 1; have hf4_1 := blk_frozen B4.out 1; have hc7_2 : w6.cell? ⟨gb7, 2, none⟩ = some (.int .i64 0) := blk_cell B7.out 2; have hf7_2 := blk_frozen B7.out 2; have hc4_2 : w6.cell? ⟨gb4, 2, none⟩ = some (.int .i64 0) := blk_cell B4.out 2; have hf4_2 := blk_frozen B4.out 2; have hc7_3 : w6.cell? ⟨gb7, 3, none⟩ = some (.string (⟨#[]⟩ : ByteArray)) := blk_cell B7.out 3; have hf7_3 := blk_frozen B7.out 3; have hc4_3 : w6.cell? ⟨gb4, 3, none⟩ = some (.string (⟨#[]⟩ : ByteArray)) := blk_cell B4.out 3; have hf4_3 := blk_frozen B4.out 3; have hc7_4 : w6.cell? ⟨gb7, 4, none⟩ = some (.int .u64 0) := blk_cell B7.out 4; have hf7_4 := blk_frozen B7.out 4; have hc4_4 : w6.cell? ⟨gb4, 4, none⟩ = some (.int .u64 0) := blk_cell B4.out 4; have hf4_4 := blk_frozen B4.out 4; have n73 := Ne.symm n37; have n74 := Ne.symm n47; have n34 : gb3 ≠ gb4 := (by have := N34.out; omega); have n43 := Ne.symm n34))
  have GW4 : w.heap.size ≤ gb4 := by have := G3.out; have := N34.out; omega
  have GW7 : w.heap.size ≤ gb7 := by have := N47.out; omega
  refine bodyPost_ret (results_list (rs := [.cell 4 31, .tmp 5, .tmp 6]) rfl (by simp) (.cell gb4 31 #[.int .u8 k, .int .u64 n, .int .i64 0, .string (⟨#[]⟩ : ByteArray), .int .u64 0] (0, 0) _ rfl ?hgr Tryd.underlying31 rfl (by kernel_rfl) (.tmp (.tmp .nil)))) rfl ?_
  case hgr => exact (blk_put (blk_put (blk_put (blk_put (blk_put (blk_far B4.out n47 _) 0 _ rfl) 1 _ rfl) 2 _ rfl) 3 _ rfl) 4 _ rfl)
  have hrow := HR6.out
  have t4 : Ty w6 gb4 31 := Ty.of B4.out
  have t7 : Ty w6 gb7 31 := Ty.of B7.out
  exact ⟨A6, c6, rfl, HC6.out, (RowB.set1 (RowB.set1 (RowB.set1 (RowB.set1 (RowB.set1 (RowB.set1 hrow t7 1 _) (t4.set _ _ _) 0 _) ((t4.set _ _ _).set _ _ _) 1 _) (((t4.set _ _ _).set _ _ _).set _ _ _) 2 _) ((((t4.set _ _ _).set _ _ _).set _ _ _).set _ _ _) 3 _) (((((t4.set _ _ _).set _ _ _).set _ _ _).set _ _ _).set _ _ _) 4 _), ((((((HBW.out.setCell (p := ⟨gb7, 1, none⟩) GW7 _).setCell (p := ⟨gb4, 0, none⟩) GW4 _).setCell (p := ⟨gb4, 1, none⟩) GW4 _).setCell (p := ⟨gb4, 2, none⟩) GW4 _).setCell (p := ⟨gb4, 3, none⟩) GW4 _).setCell (p := ⟨gb4, 4, none⟩) GW4 _)⟩
set_option maxHeartbeats 8000000 in
set_option maxRecDepth 100000 in
theorem tk2m (N : Nat) (A : Option Addr) (c : Nat) (l : List Int) (k u i m : Int) (s : ByteArray) (w : World) (hc : l.length ≤ c) (hl : l.length ≤ 1000000) (hh : ∀ x ∈ l, 0 ≤ x ∧ x ≤ 255) (hR0 : RowB N w A l) (hk0 : 0 ≤ k) (hk1 : k ≤ 255) (hm0 : 0 ≤ m) (hm1 : m ≤ 18446744073709551615) (hk : k % 4 = 2) (n : Int) (r : List Int) (hi : inum l = some (n, true, r)) (hn0 : 0 ≤ n) (hn1 : n ≤ 18446744073709551615) :
    Calls Tryd.prog 10 #[.slice A l.length c, .agg #[.int .u8 k, .int .u64 u, .int .i64 i, .string s, .int .u64 m]] w fun e w' => e = .returned (.tuple #[.agg #[.int .u8 k, .int .u64 0, .int .i64 0, .string (⟨#[]⟩ : ByteArray), .int .u64 0], .slice none 0 0, .bool false]) ∧ Below w.heap.size w w' := by
  have hnum := fun (W : World) (hR : RowB N W A l) => ref_number N A c l W hc hl hh hR
  simp only [hi] at hnum
  have HNUM := Aside0.mk hnum
  have hR := Aside0.mk hR0
  have hkt : Int.tmod k 4 = k % 4 := Int.tmod_eq_emod_of_nonneg hk0
  clear hnum hi hR0 hh
  generalize l.length = ll at HNUM hc hl ⊢
  go_enter Tryd.func10, Tryd.ntmps10
  go_upto_region 2 with (first | ((with_reducible refine gate_dst (N := 3) rfl ?_); (try (refine gate_guard (by rfl) ?_; dsimp only)); refine box_event ?hg (N := 3) ?hd (cs := #[.int .u8 k, .int .u64 u, .int .i64 i, .string s, .int .u64 m]) (t := 31) ?hr ?_; (case hd => rfl); (case hg => rfl); (case hr => first | (go_simp; done) | (go_simp; rfl)); intro gb3 hg w3 hbox hb; have BK3 := Aside0.mk hbox; have G3 := Aside0.mk (Nat.le_of_eq hg.symm : w.heap.size ≤ gb3); have HB := Aside0.mk hb; have HR3 := Aside0.mk (hR.out.move fun b cur _ hc => hb.block b (blk_lt hc)); clear hbox hb hg) | ((with_reducible refine gate_dst (N := 4) rfl ?_); (try (refine gate_guard (by rfl) ?_; dsimp only)); refine box_event ?hg (N := 4) ?hd (cs := #[.int .u8 0, .int .u64 0, .int .i64 0, .string (⟨#[]⟩ : ByteArray), .int .u64 0]) (t := 31) ?hr ?_; (case hd => rfl); (case hg => rfl); (case hr => first | (go_simp; done) | (go_simp; rfl)); intro gb4 hg w4 hbox hb; have n_ := Aside0.mk (blk_below BK3.out hb); have N34 := Aside0.mk (show gb3 < gb4 by have := blk_lt BK3.out; omega); clear BK3; have BK3 := n_; clear n_; have BK4 := Aside0.mk hbox; have n_ := Aside0.mk (below_step HB.out hb); clear HB; have HB := n_; clear n_; have n_ := Aside0.mk (HR3.out.move fun b cur _ hc => hb.block b (blk_lt hc)); clear HR3; have HR3 := n_; clear n_; have hc3 : w4.cell? ⟨gb3, 0, none⟩ = some (.int .u8 k) := blk_cell BK3.out 0; clear hbox hb hg) | ((with_reducible refine gate_dst (N := 7) rfl ?_); (try (refine gate_guard (by rfl) ?_; dsimp only)); refine box_event ?hg (N := 7) ?hd (cs := #[.int .u8 0, .int .u64 0, .int .i64 0, .string (⟨#[]⟩ : ByteArray), .int .u64 0]) (t := 31) ?hr ?_; (case hd => rfl); (case hg => rfl); (case hr => first | (go_simp; done) | (go_simp; rfl)); intro gb7 hg w7 hbox hb; have N47 := Aside0.mk (show gb4 < gb7 by have := blk_lt BK4.out; omega); have n_ := Aside0.mk (blk_below BK3.out hb); clear BK3; have BK3 := n_; clear n_; have n_ := Aside0.mk (blk_below BK4.out hb); clear BK4; have BK4 := n_; clear n_; have BK7 := Aside0.mk hbox; have n_ := Aside0.mk (below_step HB.out hb); clear HB; have HB := n_; clear n_; have n_ := Aside0.mk (HR3.out.move fun b cur _ hc => hb.block b (blk_lt hc)); clear HR3; have HR3 := n_; clear n_; clear hc3; have hcz_0 : w7.cell? ⟨gb7, 0, none⟩ = some (.int .u8 0) := blk_cell hbox 0; have hfz_0 := blk_frozen hbox 0; have hcz_1 : w7.cell? ⟨gb7, 1, none⟩ = some (.int .u64 0) := blk_cell hbox 1; have hfz_1 := blk_frozen hbox 1; have hcz_2 : w7.cell? ⟨gb7, 2, none⟩ = some (.int .i64 0) := blk_cell hbox 2; have hfz_2 := blk_frozen hbox 2; have hcz_3 : w7.cell? ⟨gb7, 3, none⟩ = some (.string (⟨#[]⟩ : ByteArray)) := blk_cell hbox 3; have hfz_3 := blk_frozen hbox 3; have hcz_4 : w7.cell? ⟨gb7, 4, none⟩ = some (.int .u64 0) := blk_cell hbox 4; have hfz_4 := blk_frozen hbox 4; skip; clear hbox hb hg))
  change Code.wp _ _ _ _ (setV w7 gb7 k 0 0 ⟨#[]⟩ 0)
  have hT7 : Ty w7 gb7 31 := Ty.of BK7.out
  have n37 : gb3 ≠ gb7 := by have := N34.out; have := N47.out; omega
  have n47 : gb4 ≠ gb7 := by have := N47.out; omega
  have B3 := Aside0.mk (show (setV w7 gb7 k 0 0 ⟨#[]⟩ 0).heap[gb3]? = some (.cells #[.int .u8 k, .int .u64 u, .int .i64 i, .string s, .int .u64 m] 31 (0, 0)) from blk_far (blk_far (blk_far (blk_far (blk_far BK3.out n37 _) n37 _) n37 _) n37 _) n37 _)
  have B4 := Aside0.mk (show (setV w7 gb7 k 0 0 ⟨#[]⟩ 0).heap[gb4]? = some (.cells #[.int .u8 0, .int .u64 0, .int .i64 0, .string (⟨#[]⟩ : ByteArray), .int .u64 0] 31 (0, 0)) from blk_far (blk_far (blk_far (blk_far (blk_far BK4.out n47 _) n47 _) n47 _) n47 _) n47 _)
  have B7 := Aside0.mk (setV_blk (x0 := k) (x1 := 0) (x2 := 0) (s := ⟨#[]⟩) (x4 := 0) BK7.out)
  have HBW := Aside0.mk (setV_below (x0 := k) (x1 := 0) (x2 := 0) (s := ⟨#[]⟩) (x4 := 0) HB.out (show w.heap.size ≤ gb7 by have := G3.out; have := N34.out; have := N47.out; omega))
  have HRW := Aside0.mk (RowB.setV (x0 := k) (x1 := 0) (x2 := 0) (s := ⟨#[]⟩) (x4 := 0) HR3.out hT7)
  clear BK3 BK4 BK7 HB HR3 hT7 hcz_0 hfz_0 hcz_1 hfz_1 hcz_2 hfz_2 hcz_3 hfz_3 hcz_4 hfz_4
  generalize setV w7 gb7 k 0 0 ⟨#[]⟩ 0 = W at B3 B4 B7 HBW HRW
  go_wp2_with (first | (go_at_call 27; refine (HNUM.out W HRW.out).mono ?_; rintro e w6 ⟨⟨A6, c6, rfl, h1, h2⟩, mq, hw⟩; have hbq : Below W.heap.size W w6 := hw ▸ pw_below_drewN (Below.refl _ _) mq; have n3_ := Aside0.mk (blk_below B3.out hbq); have n4_ := Aside0.mk (blk_below B4.out hbq); have n7_ := Aside0.mk (blk_below B7.out hbq); have nb_ := Aside0.mk (below_step HBW.out hbq); have HR6 := Aside0.mk (h2.move fun b cur _ hc => hbq.block b (blk_lt hc)); have HC6 := Aside0.mk h1; clear B3 B4 B7 HBW HRW hbq hw h1 h2; have B3 := n3_; have B4 := n4_; have B7 := n7_; have HBW := nb_; clear n3_ n4_ n7_ nb_; have hc3_0 : w6.cell? ⟨gb3, 0, none⟩ = some (.int .u8 k) := blk_cell B3.out 0; have hc3_4 : w6.cell? ⟨gb3, 4, none⟩ = some (.int .u64 m) := blk_cell B3.out 4; have hc7_0 : w6.cell? ⟨gb7, 0, none⟩ = some (.int .u8 k) := blk_cell B7.out 0; have hf7_0 := blk_frozen B7.out 0; have hc4_0 : w6.cell? ⟨gb4, 0, none⟩ = some (.int .u8 0) := blk_cell B4.out 0; have hf4_0 := blk_frozen B4.out 0; have hc7_1 : w6.cell? ⟨gb7, 1, none⟩ = some (.int .u64 0) := blk_cell B7.out 1; have hf7_1 := blk_frozen B7.out 1; have hc4_1 : w6.cell? ⟨gb4, 1, none⟩ = some (.int .u64 0) := blk_cell B4.out 1; have hf4_1 := blk_frozen B4.out 1; have hc7_2 : w6.cell? ⟨gb7, 2, none⟩ = some (.int .i64 0) := blk_cell B7.out 2; have hf7_2 := blk_frozen B7.out 2; have hc4_2 : w6.cell? ⟨gb4, 2, none⟩ = some (.int .i64 0) := blk_cell B4.out 2; have hf4_2 := blk_frozen B4.out 2; have hc7_3 : w6.cell? ⟨gb7, 3, none⟩ = some (.string (⟨#[]⟩ : ByteArray)) := blk_cell B7.out 3; have hf7_3 := blk_frozen B7.out 3; have hc4_3 : w6.cell? ⟨gb4, 3, none⟩ = some (.string (⟨#[]⟩ : ByteArray)) := blk_cell B4.out 3; have hf4_3 := blk_frozen B4.out 3; have hc7_4 : w6.cell? ⟨gb7, 4, none⟩ = some (.int .u64 0) := blk_cell B7.out 4; have hf7_4 := blk_frozen B7.out 4; have hc4_4 : w6.cell? ⟨gb4, 4, none⟩ = some (.int .u64 0) := blk_cell B4.out 4; have hf4_4 := blk_frozen B4.out 4; have n73 := Ne.symm n37; have n74 := Ne.symm n47; have n34 : gb3 ≠ gb4 := (by have := N34.out; omega); have n43 := Ne.symm n34))
  have GW4 : w.heap.size ≤ gb4 := by have := G3.out; have := N34.out; omega
  have GW7 : w.heap.size ≤ gb7 := by have := N47.out; omega
  refine bodyPost_ret (results_list (rs := [.cell 4 31, .tmp 5, .tmp 6]) rfl (by simp) (.cell gb4 31 #[.int .u8 k, .int .u64 0, .int .i64 0, .string (⟨#[]⟩ : ByteArray), .int .u64 0] (0, 0) _ rfl ?hgr Tryd.underlying31 rfl (by kernel_rfl) (.tmp (.tmp .nil)))) rfl ?_
  case hgr => exact (blk_put (blk_put (blk_put (blk_put (blk_put (blk_far B4.out n47 _) 0 _ rfl) 1 _ rfl) 2 _ rfl) 3 _ rfl) 4 _ rfl)
  exact ⟨rfl, ((((((HBW.out.setCell (p := ⟨gb7, 1, none⟩) GW7 _).setCell (p := ⟨gb4, 0, none⟩) GW4 _).setCell (p := ⟨gb4, 1, none⟩) GW4 _).setCell (p := ⟨gb4, 2, none⟩) GW4 _).setCell (p := ⟨gb4, 3, none⟩) GW4 _).setCell (p := ⟨gb4, 4, none⟩) GW4 _)⟩
set_option maxHeartbeats 8000000 in
set_option maxRecDepth 100000 in
theorem tk2b (N : Nat) (A : Option Addr) (c : Nat) (l : List Int) (k u i m : Int) (s : ByteArray) (w : World) (hc : l.length ≤ c) (hl : l.length ≤ 1000000) (hh : ∀ x ∈ l, 0 ≤ x ∧ x ≤ 255) (hR0 : RowB N w A l) (hk0 : 0 ≤ k) (hk1 : k ≤ 255) (hm0 : 0 ≤ m) (hm1 : m ≤ 18446744073709551615) (hk : k % 4 = 2) (n : Int) (r : List Int) (hi : inum l = some (n, false, r)) (hn0 : 0 ≤ n) (hn1 : n ≤ 18446744073709551615) (hnm : 1 < n) :
    Calls Tryd.prog 10 #[.slice A l.length c, .agg #[.int .u8 k, .int .u64 u, .int .i64 i, .string s, .int .u64 m]] w fun e w' => e = .returned (.tuple #[.agg #[.int .u8 k, .int .u64 0, .int .i64 0, .string (⟨#[]⟩ : ByteArray), .int .u64 0], .slice none 0 0, .bool false]) ∧ Below w.heap.size w w' := by
  have hnum := fun (W : World) (hR : RowB N W A l) => ref_number N A c l W hc hl hh hR
  simp only [hi] at hnum
  have HNUM := Aside0.mk hnum
  have hR := Aside0.mk hR0
  have hkt : Int.tmod k 4 = k % 4 := Int.tmod_eq_emod_of_nonneg hk0
  have hnb : decide (n ≤ 1) = false := decide_eq_false (by omega)
  clear hnum hi hR0 hh
  generalize l.length = ll at HNUM hc hl ⊢
  go_enter Tryd.func10, Tryd.ntmps10
  go_upto_region 2 with (first | ((with_reducible refine gate_dst (N := 3) rfl ?_); (try (refine gate_guard (by rfl) ?_; dsimp only)); refine box_event ?hg (N := 3) ?hd (cs := #[.int .u8 k, .int .u64 u, .int .i64 i, .string s, .int .u64 m]) (t := 31) ?hr ?_; (case hd => rfl); (case hg => rfl); (case hr => first | (go_simp; done) | (go_simp; rfl)); intro gb3 hg w3 hbox hb; have BK3 := Aside0.mk hbox; have G3 := Aside0.mk (Nat.le_of_eq hg.symm : w.heap.size ≤ gb3); have HB := Aside0.mk hb; have HR3 := Aside0.mk (hR.out.move fun b cur _ hc => hb.block b (blk_lt hc)); clear hbox hb hg) | ((with_reducible refine gate_dst (N := 4) rfl ?_); (try (refine gate_guard (by rfl) ?_; dsimp only)); refine box_event ?hg (N := 4) ?hd (cs := #[.int .u8 0, .int .u64 0, .int .i64 0, .string (⟨#[]⟩ : ByteArray), .int .u64 0]) (t := 31) ?hr ?_; (case hd => rfl); (case hg => rfl); (case hr => first | (go_simp; done) | (go_simp; rfl)); intro gb4 hg w4 hbox hb; have n_ := Aside0.mk (blk_below BK3.out hb); have N34 := Aside0.mk (show gb3 < gb4 by have := blk_lt BK3.out; omega); clear BK3; have BK3 := n_; clear n_; have BK4 := Aside0.mk hbox; have n_ := Aside0.mk (below_step HB.out hb); clear HB; have HB := n_; clear n_; have n_ := Aside0.mk (HR3.out.move fun b cur _ hc => hb.block b (blk_lt hc)); clear HR3; have HR3 := n_; clear n_; have hc3 : w4.cell? ⟨gb3, 0, none⟩ = some (.int .u8 k) := blk_cell BK3.out 0; clear hbox hb hg) | ((with_reducible refine gate_dst (N := 7) rfl ?_); (try (refine gate_guard (by rfl) ?_; dsimp only)); refine box_event ?hg (N := 7) ?hd (cs := #[.int .u8 0, .int .u64 0, .int .i64 0, .string (⟨#[]⟩ : ByteArray), .int .u64 0]) (t := 31) ?hr ?_; (case hd => rfl); (case hg => rfl); (case hr => first | (go_simp; done) | (go_simp; rfl)); intro gb7 hg w7 hbox hb; have N47 := Aside0.mk (show gb4 < gb7 by have := blk_lt BK4.out; omega); have n_ := Aside0.mk (blk_below BK3.out hb); clear BK3; have BK3 := n_; clear n_; have n_ := Aside0.mk (blk_below BK4.out hb); clear BK4; have BK4 := n_; clear n_; have BK7 := Aside0.mk hbox; have n_ := Aside0.mk (below_step HB.out hb); clear HB; have HB := n_; clear n_; have n_ := Aside0.mk (HR3.out.move fun b cur _ hc => hb.block b (blk_lt hc)); clear HR3; have HR3 := n_; clear n_; clear hc3; have hcz_0 : w7.cell? ⟨gb7, 0, none⟩ = some (.int .u8 0) := blk_cell hbox 0; have hfz_0 := blk_frozen hbox 0; have hcz_1 : w7.cell? ⟨gb7, 1, none⟩ = some (.int .u64 0) := blk_cell hbox 1; have hfz_1 := blk_frozen hbox 1; have hcz_2 : w7.cell? ⟨gb7, 2, none⟩ = some (.int .i64 0) := blk_cell hbox 2; have hfz_2 := blk_frozen hbox 2; have hcz_3 : w7.cell? ⟨gb7, 3, none⟩ = some (.string (⟨#[]⟩ : ByteArray)) := blk_cell hbox 3; have hfz_3 := blk_frozen hbox 3; have hcz_4 : w7.cell? ⟨gb7, 4, none⟩ = some (.int .u64 0) := blk_cell hbox 4; have hfz_4 := blk_frozen hbox 4; skip; clear hbox hb hg))
  change Code.wp _ _ _ _ (setV w7 gb7 k 0 0 ⟨#[]⟩ 0)
  have hT7 : Ty w7 gb7 31 := Ty.of BK7.out
  have n37 : gb3 ≠ gb7 := by have := N34.out; have := N47.out; omega
  have n47 : gb4 ≠ gb7 := by have := N47.out; omega
  have B3 := Aside0.mk (show (setV w7 gb7 k 0 0 ⟨#[]⟩ 0).heap[gb3]? = some (.cells #[.int .u8 k, .int .u64 u, .int .i64 i, .string s, .int .u64 m] 31 (0, 0)) from blk_far (blk_far (blk_far (blk_far (blk_far BK3.out n37 _) n37 _) n37 _) n37 _) n37 _)
  have B4 := Aside0.mk (show (setV w7 gb7 k 0 0 ⟨#[]⟩ 0).heap[gb4]? = some (.cells #[.int .u8 0, .int .u64 0, .int .i64 0, .string (⟨#[]⟩ : ByteArray), .int .u64 0] 31 (0, 0)) from blk_far (blk_far (blk_far (blk_far (blk_far BK4.out n47 _) n47 _) n47 _) n47 _) n47 _)
  have B7 := Aside0.mk (setV_blk (x0 := k) (x1 := 0) (x2 := 0) (s := ⟨#[]⟩) (x4 := 0) BK7.out)
  have HBW := Aside0.mk (setV_below (x0 := k) (x1 := 0) (x2 := 0) (s := ⟨#[]⟩) (x4 := 0) HB.out (show w.heap.size ≤ gb7 by have := G3.out; have := N34.out; have := N47.out; omega))
  have HRW := Aside0.mk (RowB.setV (x0 := k) (x1 := 0) (x2 := 0) (s := ⟨#[]⟩) (x4 := 0) HR3.out hT7)
  clear BK3 BK4 BK7 HB HR3 hT7 hcz_0 hfz_0 hcz_1 hfz_1 hcz_2 hfz_2 hcz_3 hfz_3 hcz_4 hfz_4
  generalize setV w7 gb7 k 0 0 ⟨#[]⟩ 0 = W at B3 B4 B7 HBW HRW
  go_wp2_with (first | (go_at_call 27; refine (HNUM.out W HRW.out).mono ?_; rintro e w6 ⟨⟨A6, c6, rfl, h1, h2⟩, mq, hw⟩; have hbq : Below W.heap.size W w6 := hw ▸ pw_below_drewN (Below.refl _ _) mq; have n3_ := Aside0.mk (blk_below B3.out hbq); have n4_ := Aside0.mk (blk_below B4.out hbq); have n7_ := Aside0.mk (blk_below B7.out hbq); have nb_ := Aside0.mk (below_step HBW.out hbq); have HR6 := Aside0.mk (h2.move fun b cur _ hc => hbq.block b (blk_lt hc)); have HC6 := Aside0.mk h1; clear B3 B4 B7 HBW HRW hbq hw h1 h2; have B3 := n3_; have B4 := n4_; have B7 := n7_; have HBW := nb_; clear n3_ n4_ n7_ nb_; have hc3_0 : w6.cell? ⟨gb3, 0, none⟩ = some (.int .u8 k) := blk_cell B3.out 0; have hc3_4 : w6.cell? ⟨gb3, 4, none⟩ = some (.int .u64 m) := blk_cell B3.out 4; have hc7_0 : w6.cell? ⟨gb7, 0, none⟩ = some (.int .u8 k) := blk_cell B7.out 0; have hf7_0 := blk_frozen B7.out 0; have hc4_0 : w6.cell? ⟨gb4, 0, none⟩ = some (.int .u8 0) := blk_cell B4.out 0; have hf4_0 := blk_frozen B4.out 0; have hc7_1 : w6.cell? ⟨gb7, 1, none⟩ = some (.int .u64 0) := blk_cell B7.out 1; have hf7_1 := blk_frozen B7.out 1; have hc4_1 : w6.cell? ⟨gb4, 1, none⟩ = some (.int .u64 0) := blk_cell B4.out 1; have hf4_1 := blk_frozen B4.out 1; have hc7_2 : w6.cell? ⟨gb7, 2, none⟩ = some (.int .i64 0) := blk_cell B7.out 2; have hf7_2 := blk_frozen B7.out 2; have hc4_2 : w6.cell? ⟨gb4, 2, none⟩ = some (.int .i64 0) := blk_cell B4.out 2; have hf4_2 := blk_frozen B4.out 2; have hc7_3 : w6.cell? ⟨gb7, 3, none⟩ = some (.string (⟨#[]⟩ : ByteArray)) := blk_cell B7.out 3; have hf7_3 := blk_frozen B7.out 3; have hc4_3 : w6.cell? ⟨gb4, 3, none⟩ = some (.string (⟨#[]⟩ : ByteArray)) := blk_cell B4.out 3; have hf4_3 := blk_frozen B4.out 3; have hc7_4 : w6.cell? ⟨gb7, 4, none⟩ = some (.int .u64 0) := blk_cell B7.out 4; have hf7_4 := blk_frozen B7.out 4; have hc4_4 : w6.cell? ⟨gb4, 4, none⟩ = some (.int .u64 0) := blk_cell B4.out 4; have hf4_4 := blk_frozen B4.out 4; have n73 := Ne.symm n37; have n74 := Ne.symm n47; have n34 : gb3 ≠ gb4 := (by have := N34.out; omega); have n43 := Ne.symm n34))
  have GW4 : w.heap.size ≤ gb4 := by have := G3.out; have := N34.out; omega
  have GW7 : w.heap.size ≤ gb7 := by have := N47.out; omega
  refine bodyPost_ret (results_list (rs := [.cell 4 31, .tmp 5, .tmp 6]) rfl (by simp) (.cell gb4 31 #[.int .u8 k, .int .u64 0, .int .i64 0, .string (⟨#[]⟩ : ByteArray), .int .u64 0] (0, 0) _ rfl ?hgr Tryd.underlying31 rfl (by kernel_rfl) (.tmp (.tmp .nil)))) rfl ?_
  case hgr => exact (blk_put (blk_put (blk_put (blk_put (blk_put (blk_far B4.out n47 _) 0 _ rfl) 1 _ rfl) 2 _ rfl) 3 _ rfl) 4 _ rfl)
  exact ⟨rfl, ((((((HBW.out.setCell (p := ⟨gb7, 1, none⟩) GW7 _).setCell (p := ⟨gb4, 0, none⟩) GW4 _).setCell (p := ⟨gb4, 1, none⟩) GW4 _).setCell (p := ⟨gb4, 2, none⟩) GW4 _).setCell (p := ⟨gb4, 3, none⟩) GW4 _).setCell (p := ⟨gb4, 4, none⟩) GW4 _)⟩
set_option maxHeartbeats 8000000 in
set_option maxRecDepth 100000 in
theorem tk3m (N : Nat) (A : Option Addr) (c : Nat) (l : List Int) (k u i m : Int) (s : ByteArray) (w : World) (hc : l.length ≤ c) (hl : l.length ≤ 1000000) (hh : ∀ x ∈ l, 0 ≤ x ∧ x ≤ 255) (hR0 : RowB N w A l) (hk0 : 0 ≤ k) (hk1 : k ≤ 255) (hm0 : 0 ≤ m) (hm1 : m ≤ 18446744073709551615) (hk : k % 4 = 3) (n : Int) (r : List Int) (hi : inum l = some (n, true, r)) (hn0 : 0 ≤ n) (hn1 : n ≤ 18446744073709551615) :
    Calls Tryd.prog 10 #[.slice A l.length c, .agg #[.int .u8 k, .int .u64 u, .int .i64 i, .string s, .int .u64 m]] w fun e w' => e = .returned (.tuple #[.agg #[.int .u8 k, .int .u64 0, .int .i64 0, .string (⟨#[]⟩ : ByteArray), .int .u64 0], .slice none 0 0, .bool false]) ∧ Below w.heap.size w w' := by
  have hnum := fun (W : World) (hR : RowB N W A l) => ref_number N A c l W hc hl hh hR
  simp only [hi] at hnum
  have HNUM := Aside0.mk hnum
  have hR := Aside0.mk hR0
  have hkt : Int.tmod k 4 = k % 4 := Int.tmod_eq_emod_of_nonneg hk0
  clear hnum hi hR0 hh
  generalize l.length = ll at HNUM hc hl ⊢
  go_enter Tryd.func10, Tryd.ntmps10
  go_upto_region 2 with (first | ((with_reducible refine gate_dst (N := 3) rfl ?_); (try (refine gate_guard (by rfl) ?_; dsimp only)); refine box_event ?hg (N := 3) ?hd (cs := #[.int .u8 k, .int .u64 u, .int .i64 i, .string s, .int .u64 m]) (t := 31) ?hr ?_; (case hd => rfl); (case hg => rfl); (case hr => first | (go_simp; done) | (go_simp; rfl)); intro gb3 hg w3 hbox hb; have BK3 := Aside0.mk hbox; have G3 := Aside0.mk (Nat.le_of_eq hg.symm : w.heap.size ≤ gb3); have HB := Aside0.mk hb; have HR3 := Aside0.mk (hR.out.move fun b cur _ hc => hb.block b (blk_lt hc)); clear hbox hb hg) | ((with_reducible refine gate_dst (N := 4) rfl ?_); (try (refine gate_guard (by rfl) ?_; dsimp only)); refine box_event ?hg (N := 4) ?hd (cs := #[.int .u8 0, .int .u64 0, .int .i64 0, .string (⟨#[]⟩ : ByteArray), .int .u64 0]) (t := 31) ?hr ?_; (case hd => rfl); (case hg => rfl); (case hr => first | (go_simp; done) | (go_simp; rfl)); intro gb4 hg w4 hbox hb; have n_ := Aside0.mk (blk_below BK3.out hb); have N34 := Aside0.mk (show gb3 < gb4 by have := blk_lt BK3.out; omega); clear BK3; have BK3 := n_; clear n_; have BK4 := Aside0.mk hbox; have n_ := Aside0.mk (below_step HB.out hb); clear HB; have HB := n_; clear n_; have n_ := Aside0.mk (HR3.out.move fun b cur _ hc => hb.block b (blk_lt hc)); clear HR3; have HR3 := n_; clear n_; have hc3 : w4.cell? ⟨gb3, 0, none⟩ = some (.int .u8 k) := blk_cell BK3.out 0; clear hbox hb hg) | ((with_reducible refine gate_dst (N := 7) rfl ?_); (try (refine gate_guard (by rfl) ?_; dsimp only)); refine box_event ?hg (N := 7) ?hd (cs := #[.int .u8 0, .int .u64 0, .int .i64 0, .string (⟨#[]⟩ : ByteArray), .int .u64 0]) (t := 31) ?hr ?_; (case hd => rfl); (case hg => rfl); (case hr => first | (go_simp; done) | (go_simp; rfl)); intro gb7 hg w7 hbox hb; have N47 := Aside0.mk (show gb4 < gb7 by have := blk_lt BK4.out; omega); have n_ := Aside0.mk (blk_below BK3.out hb); clear BK3; have BK3 := n_; clear n_; have n_ := Aside0.mk (blk_below BK4.out hb); clear BK4; have BK4 := n_; clear n_; have BK7 := Aside0.mk hbox; have n_ := Aside0.mk (below_step HB.out hb); clear HB; have HB := n_; clear n_; have n_ := Aside0.mk (HR3.out.move fun b cur _ hc => hb.block b (blk_lt hc)); clear HR3; have HR3 := n_; clear n_; clear hc3; have hcz_0 : w7.cell? ⟨gb7, 0, none⟩ = some (.int .u8 0) := blk_cell hbox 0; have hfz_0 := blk_frozen hbox 0; have hcz_1 : w7.cell? ⟨gb7, 1, none⟩ = some (.int .u64 0) := blk_cell hbox 1; have hfz_1 := blk_frozen hbox 1; have hcz_2 : w7.cell? ⟨gb7, 2, none⟩ = some (.int .i64 0) := blk_cell hbox 2; have hfz_2 := blk_frozen hbox 2; have hcz_3 : w7.cell? ⟨gb7, 3, none⟩ = some (.string (⟨#[]⟩ : ByteArray)) := blk_cell hbox 3; have hfz_3 := blk_frozen hbox 3; have hcz_4 : w7.cell? ⟨gb7, 4, none⟩ = some (.int .u64 0) := blk_cell hbox 4; have hfz_4 := blk_frozen hbox 4; skip; clear hbox hb hg))
  change Code.wp _ _ _ _ (setV w7 gb7 k 0 0 ⟨#[]⟩ 0)
  have hT7 : Ty w7 gb7 31 := Ty.of BK7.out
  have n37 : gb3 ≠ gb7 := by have := N34.out; have := N47.out; omega
  have n47 : gb4 ≠ gb7 := by have := N47.out; omega
  have B3 := Aside0.mk (show (setV w7 gb7 k 0 0 ⟨#[]⟩ 0).heap[gb3]? = some (.cells #[.int .u8 k, .int .u64 u, .int .i64 i, .string s, .int .u64 m] 31 (0, 0)) from blk_far (blk_far (blk_far (blk_far (blk_far BK3.out n37 _) n37 _) n37 _) n37 _) n37 _)
  have B4 := Aside0.mk (show (setV w7 gb7 k 0 0 ⟨#[]⟩ 0).heap[gb4]? = some (.cells #[.int .u8 0, .int .u64 0, .int .i64 0, .string (⟨#[]⟩ : ByteArray), .int .u64 0] 31 (0, 0)) from blk_far (blk_far (blk_far (blk_far (blk_far BK4.out n47 _) n47 _) n47 _) n47 _) n47 _)
  have B7 := Aside0.mk (setV_blk (x0 := k) (x1 := 0) (x2 := 0) (s := ⟨#[]⟩) (x4 := 0) BK7.out)
  have HBW := Aside0.mk (setV_below (x0 := k) (x1 := 0) (x2 := 0) (s := ⟨#[]⟩) (x4 := 0) HB.out (show w.heap.size ≤ gb7 by have := G3.out; have := N34.out; have := N47.out; omega))
  have HRW := Aside0.mk (RowB.setV (x0 := k) (x1 := 0) (x2 := 0) (s := ⟨#[]⟩) (x4 := 0) HR3.out hT7)
  clear BK3 BK4 BK7 HB HR3 hT7 hcz_0 hfz_0 hcz_1 hfz_1 hcz_2 hfz_2 hcz_3 hfz_3 hcz_4 hfz_4
  generalize setV w7 gb7 k 0 0 ⟨#[]⟩ 0 = W at B3 B4 B7 HBW HRW
  go_wp2_with (first | (go_at_call 27; refine (HNUM.out W HRW.out).mono ?_; rintro e w6 ⟨⟨A6, c6, rfl, h1, h2⟩, mq, hw⟩; have hbq : Below W.heap.size W w6 := hw ▸ pw_below_drewN (Below.refl _ _) mq; have n3_ := Aside0.mk (blk_below B3.out hbq); have n4_ := Aside0.mk (blk_below B4.out hbq); have n7_ := Aside0.mk (blk_below B7.out hbq); have nb_ := Aside0.mk (below_step HBW.out hbq); have HR6 := Aside0.mk (h2.move fun b cur _ hc => hbq.block b (blk_lt hc)); have HC6 := Aside0.mk h1; clear B3 B4 B7 HBW HRW hbq hw h1 h2; have B3 := n3_; have B4 := n4_; have B7 := n7_; have HBW := nb_; clear n3_ n4_ n7_ nb_; have hc3_0 : w6.cell? ⟨gb3, 0, none⟩ = some (.int .u8 k) := blk_cell B3.out 0; have hc3_4 : w6.cell? ⟨gb3, 4, none⟩ = some (.int .u64 m) := blk_cell B3.out 4; have hc7_0 : w6.cell? ⟨gb7, 0, none⟩ = some (.int .u8 k) := blk_cell B7.out 0; have hf7_0 := blk_frozen B7.out 0; have hc4_0 : w6.cell? ⟨gb4, 0, none⟩ = some (.int .u8 0) := blk_cell B4.out 0; have hf4_0 := blk_frozen B4.out 0; have hc7_1 : w6.cell? ⟨gb7, 1, none⟩ = some (.int .u64 0) := blk_cell B7.out 1; have hf7_1 := blk_frozen B7.out 1; have hc4_1 : w6.cell? ⟨gb4, 1, none⟩ = some (.int .u64 0) := blk_cell B4.out 1; have hf4_1 := blk_frozen B4.out 1; have hc7_2 : w6.cell? ⟨gb7, 2, none⟩ = some (.int .i64 0) := blk_cell B7.out 2; have hf7_2 := blk_frozen B7.out 2; have hc4_2 : w6.cell? ⟨gb4, 2, none⟩ = some (.int .i64 0) := blk_cell B4.out 2; have hf4_2 := blk_frozen B4.out 2; have hc7_3 : w6.cell? ⟨gb7, 3, none⟩ = some (.string (⟨#[]⟩ : ByteArray)) := blk_cell B7.out 3; have hf7_3 := blk_frozen B7.out 3; have hc4_3 : w6.cell? ⟨gb4, 3, none⟩ = some (.string (⟨#[]⟩ : ByteArray)) := blk_cell B4.out 3; have hf4_3 := blk_frozen B4.out 3; have hc7_4 : w6.cell? ⟨gb7, 4, none⟩ = some (.int .u64 0) := blk_cell B7.out 4; have hf7_4 := blk_frozen B7.out 4; have hc4_4 : w6.cell? ⟨gb4, 4, none⟩ = some (.int .u64 0) := blk_cell B4.out 4; have hf4_4 := blk_frozen B4.out 4; have n73 := Ne.symm n37; have n74 := Ne.symm n47; have n34 : gb3 ≠ gb4 := (by have := N34.out; omega); have n43 := Ne.symm n34))
  have GW4 : w.heap.size ≤ gb4 := by have := G3.out; have := N34.out; omega
  have GW7 : w.heap.size ≤ gb7 := by have := N47.out; omega
  refine bodyPost_ret (results_list (rs := [.cell 4 31, .tmp 5, .tmp 6]) rfl (by simp) (.cell gb4 31 #[.int .u8 k, .int .u64 0, .int .i64 0, .string (⟨#[]⟩ : ByteArray), .int .u64 0] (0, 0) _ rfl ?hgr Tryd.underlying31 rfl (by kernel_rfl) (.tmp (.tmp .nil)))) rfl ?_
  case hgr => exact (blk_put (blk_put (blk_put (blk_put (blk_put B4.out 0 _ rfl) 1 _ rfl) 2 _ rfl) 3 _ rfl) 4 _ rfl)
  exact ⟨rfl, (((((HBW.out.setCell (p := ⟨gb4, 0, none⟩) GW4 _).setCell (p := ⟨gb4, 1, none⟩) GW4 _).setCell (p := ⟨gb4, 2, none⟩) GW4 _).setCell (p := ⟨gb4, 3, none⟩) GW4 _).setCell (p := ⟨gb4, 4, none⟩) GW4 _)⟩
set_option maxHeartbeats 8000000 in
set_option maxRecDepth 100000 in
theorem tk3b (N : Nat) (A : Option Addr) (c : Nat) (l : List Int) (k u i m : Int) (s : ByteArray) (w : World) (hc : l.length ≤ c) (hl : l.length ≤ 1000000) (hh : ∀ x ∈ l, 0 ≤ x ∧ x ≤ 255) (hR0 : RowB N w A l) (hk0 : 0 ≤ k) (hk1 : k ≤ 255) (hm0 : 0 ≤ m) (hm1 : m ≤ 18446744073709551615) (hk : k % 4 = 3) (n : Int) (r : List Int) (hi : inum l = some (n, false, r)) (hn0 : 0 ≤ n) (hn1 : n ≤ 18446744073709551615) (hnm : m < n) :
    Calls Tryd.prog 10 #[.slice A l.length c, .agg #[.int .u8 k, .int .u64 u, .int .i64 i, .string s, .int .u64 m]] w fun e w' => e = .returned (.tuple #[.agg #[.int .u8 k, .int .u64 0, .int .i64 0, .string (⟨#[]⟩ : ByteArray), .int .u64 0], .slice none 0 0, .bool false]) ∧ Below w.heap.size w w' := by
  have hnum := fun (W : World) (hR : RowB N W A l) => ref_number N A c l W hc hl hh hR
  simp only [hi] at hnum
  have HNUM := Aside0.mk hnum
  have hR := Aside0.mk hR0
  have hkt : Int.tmod k 4 = k % 4 := Int.tmod_eq_emod_of_nonneg hk0
  clear hnum hi hR0 hh
  generalize l.length = ll at HNUM hc hl ⊢
  go_enter Tryd.func10, Tryd.ntmps10
  go_upto_region 2 with (first | ((with_reducible refine gate_dst (N := 3) rfl ?_); (try (refine gate_guard (by rfl) ?_; dsimp only)); refine box_event ?hg (N := 3) ?hd (cs := #[.int .u8 k, .int .u64 u, .int .i64 i, .string s, .int .u64 m]) (t := 31) ?hr ?_; (case hd => rfl); (case hg => rfl); (case hr => first | (go_simp; done) | (go_simp; rfl)); intro gb3 hg w3 hbox hb; have BK3 := Aside0.mk hbox; have G3 := Aside0.mk (Nat.le_of_eq hg.symm : w.heap.size ≤ gb3); have HB := Aside0.mk hb; have HR3 := Aside0.mk (hR.out.move fun b cur _ hc => hb.block b (blk_lt hc)); clear hbox hb hg) | ((with_reducible refine gate_dst (N := 4) rfl ?_); (try (refine gate_guard (by rfl) ?_; dsimp only)); refine box_event ?hg (N := 4) ?hd (cs := #[.int .u8 0, .int .u64 0, .int .i64 0, .string (⟨#[]⟩ : ByteArray), .int .u64 0]) (t := 31) ?hr ?_; (case hd => rfl); (case hg => rfl); (case hr => first | (go_simp; done) | (go_simp; rfl)); intro gb4 hg w4 hbox hb; have n_ := Aside0.mk (blk_below BK3.out hb); have N34 := Aside0.mk (show gb3 < gb4 by have := blk_lt BK3.out; omega); clear BK3; have BK3 := n_; clear n_; have BK4 := Aside0.mk hbox; have n_ := Aside0.mk (below_step HB.out hb); clear HB; have HB := n_; clear n_; have n_ := Aside0.mk (HR3.out.move fun b cur _ hc => hb.block b (blk_lt hc)); clear HR3; have HR3 := n_; clear n_; have hc3 : w4.cell? ⟨gb3, 0, none⟩ = some (.int .u8 k) := blk_cell BK3.out 0; clear hbox hb hg) | ((with_reducible refine gate_dst (N := 7) rfl ?_); (try (refine gate_guard (by rfl) ?_; dsimp only)); refine box_event ?hg (N := 7) ?hd (cs := #[.int .u8 0, .int .u64 0, .int .i64 0, .string (⟨#[]⟩ : ByteArray), .int .u64 0]) (t := 31) ?hr ?_; (case hd => rfl); (case hg => rfl); (case hr => first | (go_simp; done) | (go_simp; rfl)); intro gb7 hg w7 hbox hb; have N47 := Aside0.mk (show gb4 < gb7 by have := blk_lt BK4.out; omega); have n_ := Aside0.mk (blk_below BK3.out hb); clear BK3; have BK3 := n_; clear n_; have n_ := Aside0.mk (blk_below BK4.out hb); clear BK4; have BK4 := n_; clear n_; have BK7 := Aside0.mk hbox; have n_ := Aside0.mk (below_step HB.out hb); clear HB; have HB := n_; clear n_; have n_ := Aside0.mk (HR3.out.move fun b cur _ hc => hb.block b (blk_lt hc)); clear HR3; have HR3 := n_; clear n_; clear hc3; have hcz_0 : w7.cell? ⟨gb7, 0, none⟩ = some (.int .u8 0) := blk_cell hbox 0; have hfz_0 := blk_frozen hbox 0; have hcz_1 : w7.cell? ⟨gb7, 1, none⟩ = some (.int .u64 0) := blk_cell hbox 1; have hfz_1 := blk_frozen hbox 1; have hcz_2 : w7.cell? ⟨gb7, 2, none⟩ = some (.int .i64 0) := blk_cell hbox 2; have hfz_2 := blk_frozen hbox 2; have hcz_3 : w7.cell? ⟨gb7, 3, none⟩ = some (.string (⟨#[]⟩ : ByteArray)) := blk_cell hbox 3; have hfz_3 := blk_frozen hbox 3; have hcz_4 : w7.cell? ⟨gb7, 4, none⟩ = some (.int .u64 0) := blk_cell hbox 4; have hfz_4 := blk_frozen hbox 4; skip; clear hbox hb hg))
  change Code.wp _ _ _ _ (setV w7 gb7 k 0 0 ⟨#[]⟩ 0)
  have hT7 : Ty w7 gb7 31 := Ty.of BK7.out
  have n37 : gb3 ≠ gb7 := by have := N34.out; have := N47.out; omega
  have n47 : gb4 ≠ gb7 := by have := N47.out; omega
  have B3 := Aside0.mk (show (setV w7 gb7 k 0 0 ⟨#[]⟩ 0).heap[gb3]? = some (.cells #[.int .u8 k, .int .u64 u, .int .i64 i, .string s, .int .u64 m] 31 (0, 0)) from blk_far (blk_far (blk_far (blk_far (blk_far BK3.out n37 _) n37 _) n37 _) n37 _) n37 _)
  have B4 := Aside0.mk (show (setV w7 gb7 k 0 0 ⟨#[]⟩ 0).heap[gb4]? = some (.cells #[.int .u8 0, .int .u64 0, .int .i64 0, .string (⟨#[]⟩ : ByteArray), .int .u64 0] 31 (0, 0)) from blk_far (blk_far (blk_far (blk_far (blk_far BK4.out n47 _) n47 _) n47 _) n47 _) n47 _)
  have B7 := Aside0.mk (setV_blk (x0 := k) (x1 := 0) (x2 := 0) (s := ⟨#[]⟩) (x4 := 0) BK7.out)
  have HBW := Aside0.mk (setV_below (x0 := k) (x1 := 0) (x2 := 0) (s := ⟨#[]⟩) (x4 := 0) HB.out (show w.heap.size ≤ gb7 by have := G3.out; have := N34.out; have := N47.out; omega))
  have HRW := Aside0.mk (RowB.setV (x0 := k) (x1 := 0) (x2 := 0) (s := ⟨#[]⟩) (x4 := 0) HR3.out hT7)
  clear BK3 BK4 BK7 HB HR3 hT7 hcz_0 hfz_0 hcz_1 hfz_1 hcz_2 hfz_2 hcz_3 hfz_3 hcz_4 hfz_4
  generalize setV w7 gb7 k 0 0 ⟨#[]⟩ 0 = W at B3 B4 B7 HBW HRW
  go_wp2_with (first | (go_at_call 27; refine (HNUM.out W HRW.out).mono ?_; rintro e w6 ⟨⟨A6, c6, rfl, h1, h2⟩, mq, hw⟩; have hbq : Below W.heap.size W w6 := hw ▸ pw_below_drewN (Below.refl _ _) mq; have n3_ := Aside0.mk (blk_below B3.out hbq); have n4_ := Aside0.mk (blk_below B4.out hbq); have n7_ := Aside0.mk (blk_below B7.out hbq); have nb_ := Aside0.mk (below_step HBW.out hbq); have HR6 := Aside0.mk (h2.move fun b cur _ hc => hbq.block b (blk_lt hc)); have HC6 := Aside0.mk h1; clear B3 B4 B7 HBW HRW hbq hw h1 h2; have B3 := n3_; have B4 := n4_; have B7 := n7_; have HBW := nb_; clear n3_ n4_ n7_ nb_; have hc3_0 : w6.cell? ⟨gb3, 0, none⟩ = some (.int .u8 k) := blk_cell B3.out 0; have hc3_4 : w6.cell? ⟨gb3, 4, none⟩ = some (.int .u64 m) := blk_cell B3.out 4; have hc7_0 : w6.cell? ⟨gb7, 0, none⟩ = some (.int .u8 k) := blk_cell B7.out 0; have hf7_0 := blk_frozen B7.out 0; have hc4_0 : w6.cell? ⟨gb4, 0, none⟩ = some (.int .u8 0) := blk_cell B4.out 0; have hf4_0 := blk_frozen B4.out 0; have hc7_1 : w6.cell? ⟨gb7, 1, none⟩ = some (.int .u64 0) := blk_cell B7.out 1; have hf7_1 := blk_frozen B7.out 1; have hc4_1 : w6.cell? ⟨gb4, 1, none⟩ = some (.int .u64 0) := blk_cell B4.out 1; have hf4_1 := blk_frozen B4.out 1; have hc7_2 : w6.cell? ⟨gb7, 2, none⟩ = some (.int .i64 0) := blk_cell B7.out 2; have hf7_2 := blk_frozen B7.out 2; have hc4_2 : w6.cell? ⟨gb4, 2, none⟩ = some (.int .i64 0) := blk_cell B4.out 2; have hf4_2 := blk_frozen B4.out 2; have hc7_3 : w6.cell? ⟨gb7, 3, none⟩ = some (.string (⟨#[]⟩ : ByteArray)) := blk_cell B7.out 3; have hf7_3 := blk_frozen B7.out 3; have hc4_3 : w6.cell? ⟨gb4, 3, none⟩ = some (.string (⟨#[]⟩ : ByteArray)) := blk_cell B4.out 3; have hf4_3 := blk_frozen B4.out 3; have hc7_4 : w6.cell? ⟨gb7, 4, none⟩ = some (.int .u64 0) := blk_cell B7.out 4; have hf7_4 := blk_frozen B7.out 4; have hc4_4 : w6.cell? ⟨gb4, 4, none⟩ = some (.int .u64 0) := blk_cell B4.out 4; have hf4_4 := blk_frozen B4.out 4; have n73 := Ne.symm n37; have n74 := Ne.symm n47; have n34 : gb3 ≠ gb4 := (by have := N34.out; omega); have n43 := Ne.symm n34))
  have GW4 : w.heap.size ≤ gb4 := by have := G3.out; have := N34.out; omega
  have GW7 : w.heap.size ≤ gb7 := by have := N47.out; omega
  refine bodyPost_ret (results_list (rs := [.cell 4 31, .tmp 5, .tmp 6]) rfl (by simp) (.cell gb4 31 #[.int .u8 k, .int .u64 0, .int .i64 0, .string (⟨#[]⟩ : ByteArray), .int .u64 0] (0, 0) _ rfl ?hgr Tryd.underlying31 rfl (by kernel_rfl) (.tmp (.tmp .nil)))) rfl ?_
  case hgr => exact (blk_put (blk_put (blk_put (blk_put (blk_put B4.out 0 _ rfl) 1 _ rfl) 2 _ rfl) 3 _ rfl) 4 _ rfl)
  exact ⟨rfl, (((((HBW.out.setCell (p := ⟨gb4, 0, none⟩) GW4 _).setCell (p := ⟨gb4, 1, none⟩) GW4 _).setCell (p := ⟨gb4, 2, none⟩) GW4 _).setCell (p := ⟨gb4, 3, none⟩) GW4 _).setCell (p := ⟨gb4, 4, none⟩) GW4 _)⟩
set_option maxHeartbeats 8000000 in
set_option maxRecDepth 100000 in
theorem tk3l (N : Nat) (A : Option Addr) (c : Nat) (l : List Int) (k u i m : Int) (s : ByteArray) (w : World) (hc : l.length ≤ c) (hl : l.length ≤ 1000000) (hh : ∀ x ∈ l, 0 ≤ x ∧ x ≤ 255) (hR0 : RowB N w A l) (hk0 : 0 ≤ k) (hk1 : k ≤ 255) (hm0 : 0 ≤ m) (hm1 : m ≤ 18446744073709551615) (hk : k % 4 = 3) (n : Int) (r : List Int) (hi : inum l = some (n, false, r)) (hn0 : 0 ≤ n) (hn1 : n ≤ 18446744073709551615) (hnm : n ≤ m) (hrl : r.length ≤ 1000000) (hnl : (r.length : Int) < n) :
    Calls Tryd.prog 10 #[.slice A l.length c, .agg #[.int .u8 k, .int .u64 u, .int .i64 i, .string s, .int .u64 m]] w fun e w' => e = .returned (.tuple #[.agg #[.int .u8 k, .int .u64 0, .int .i64 0, .string (⟨#[]⟩ : ByteArray), .int .u64 0], .slice none 0 0, .bool false]) ∧ Below w.heap.size w w' := by
  have hnum := fun (W : World) (hR : RowB N W A l) => ref_number N A c l W hc hl hh hR
  simp only [hi] at hnum
  have HNUM := Aside0.mk hnum
  have hR := Aside0.mk hR0
  have hkt : Int.tmod k 4 = k % 4 := Int.tmod_eq_emod_of_nonneg hk0
  have hlw : IntKind.u64.wrap (r.length : Int) = (r.length : Int) := by rw [IntKind.wrap_u64]; omega
  have hnb : decide (n ≤ (r.length : Int)) = false := decide_eq_false (by omega)
  clear hnum hi hR0 hh
  generalize l.length = ll at HNUM hc hl ⊢
  go_enter Tryd.func10, Tryd.ntmps10
  go_upto_region 2 with (first | ((with_reducible refine gate_dst (N := 3) rfl ?_); (try (refine gate_guard (by rfl) ?_; dsimp only)); refine box_event ?hg (N := 3) ?hd (cs := #[.int .u8 k, .int .u64 u, .int .i64 i, .string s, .int .u64 m]) (t := 31) ?hr ?_; (case hd => rfl); (case hg => rfl); (case hr => first | (go_simp; done) | (go_simp; rfl)); intro gb3 hg w3 hbox hb; have BK3 := Aside0.mk hbox; have G3 := Aside0.mk (Nat.le_of_eq hg.symm : w.heap.size ≤ gb3); have HB := Aside0.mk hb; have HR3 := Aside0.mk (hR.out.move fun b cur _ hc => hb.block b (blk_lt hc)); clear hbox hb hg) | ((with_reducible refine gate_dst (N := 4) rfl ?_); (try (refine gate_guard (by rfl) ?_; dsimp only)); refine box_event ?hg (N := 4) ?hd (cs := #[.int .u8 0, .int .u64 0, .int .i64 0, .string (⟨#[]⟩ : ByteArray), .int .u64 0]) (t := 31) ?hr ?_; (case hd => rfl); (case hg => rfl); (case hr => first | (go_simp; done) | (go_simp; rfl)); intro gb4 hg w4 hbox hb; have n_ := Aside0.mk (blk_below BK3.out hb); have N34 := Aside0.mk (show gb3 < gb4 by have := blk_lt BK3.out; omega); clear BK3; have BK3 := n_; clear n_; have BK4 := Aside0.mk hbox; have n_ := Aside0.mk (below_step HB.out hb); clear HB; have HB := n_; clear n_; have n_ := Aside0.mk (HR3.out.move fun b cur _ hc => hb.block b (blk_lt hc)); clear HR3; have HR3 := n_; clear n_; have hc3 : w4.cell? ⟨gb3, 0, none⟩ = some (.int .u8 k) := blk_cell BK3.out 0; clear hbox hb hg) | ((with_reducible refine gate_dst (N := 7) rfl ?_); (try (refine gate_guard (by rfl) ?_; dsimp only)); refine box_event ?hg (N := 7) ?hd (cs := #[.int .u8 0, .int .u64 0, .int .i64 0, .string (⟨#[]⟩ : ByteArray), .int .u64 0]) (t := 31) ?hr ?_; (case hd => rfl); (case hg => rfl); (case hr => first | (go_simp; done) | (go_simp; rfl)); intro gb7 hg w7 hbox hb; have N47 := Aside0.mk (show gb4 < gb7 by have := blk_lt BK4.out; omega); have n_ := Aside0.mk (blk_below BK3.out hb); clear BK3; have BK3 := n_; clear n_; have n_ := Aside0.mk (blk_below BK4.out hb); clear BK4; have BK4 := n_; clear n_; have BK7 := Aside0.mk hbox; have n_ := Aside0.mk (below_step HB.out hb); clear HB; have HB := n_; clear n_; have n_ := Aside0.mk (HR3.out.move fun b cur _ hc => hb.block b (blk_lt hc)); clear HR3; have HR3 := n_; clear n_; clear hc3; have hcz_0 : w7.cell? ⟨gb7, 0, none⟩ = some (.int .u8 0) := blk_cell hbox 0; have hfz_0 := blk_frozen hbox 0; have hcz_1 : w7.cell? ⟨gb7, 1, none⟩ = some (.int .u64 0) := blk_cell hbox 1; have hfz_1 := blk_frozen hbox 1; have hcz_2 : w7.cell? ⟨gb7, 2, none⟩ = some (.int .i64 0) := blk_cell hbox 2; have hfz_2 := blk_frozen hbox 2; have hcz_3 : w7.cell? ⟨gb7, 3, none⟩ = some (.string (⟨#[]⟩ : ByteArray)) := blk_cell hbox 3; have hfz_3 := blk_frozen hbox 3; have hcz_4 : w7.cell? ⟨gb7, 4, none⟩ = some (.int .u64 0) := blk_cell hbox 4; have hfz_4 := blk_frozen hbox 4; skip; clear hbox hb hg))
  change Code.wp _ _ _ _ (setV w7 gb7 k 0 0 ⟨#[]⟩ 0)
  have hT7 : Ty w7 gb7 31 := Ty.of BK7.out
  have n37 : gb3 ≠ gb7 := by have := N34.out; have := N47.out; omega
  have n47 : gb4 ≠ gb7 := by have := N47.out; omega
  have B3 := Aside0.mk (show (setV w7 gb7 k 0 0 ⟨#[]⟩ 0).heap[gb3]? = some (.cells #[.int .u8 k, .int .u64 u, .int .i64 i, .string s, .int .u64 m] 31 (0, 0)) from blk_far (blk_far (blk_far (blk_far (blk_far BK3.out n37 _) n37 _) n37 _) n37 _) n37 _)
  have B4 := Aside0.mk (show (setV w7 gb7 k 0 0 ⟨#[]⟩ 0).heap[gb4]? = some (.cells #[.int .u8 0, .int .u64 0, .int .i64 0, .string (⟨#[]⟩ : ByteArray), .int .u64 0] 31 (0, 0)) from blk_far (blk_far (blk_far (blk_far (blk_far BK4.out n47 _) n47 _) n47 _) n47 _) n47 _)
  have B7 := Aside0.mk (setV_blk (x0 := k) (x1 := 0) (x2 := 0) (s := ⟨#[]⟩) (x4 := 0) BK7.out)
  have HBW := Aside0.mk (setV_below (x0 := k) (x1 := 0) (x2 := 0) (s := ⟨#[]⟩) (x4 := 0) HB.out (show w.heap.size ≤ gb7 by have := G3.out; have := N34.out; have := N47.out; omega))
  have HRW := Aside0.mk (RowB.setV (x0 := k) (x1 := 0) (x2 := 0) (s := ⟨#[]⟩) (x4 := 0) HR3.out hT7)
  clear BK3 BK4 BK7 HB HR3 hT7 hcz_0 hfz_0 hcz_1 hfz_1 hcz_2 hfz_2 hcz_3 hfz_3 hcz_4 hfz_4
  generalize setV w7 gb7 k 0 0 ⟨#[]⟩ 0 = W at B3 B4 B7 HBW HRW
  go_wp2_with (first | (go_at_call 27; refine (HNUM.out W HRW.out).mono ?_; rintro e w6 ⟨⟨A6, c6, rfl, h1, h2⟩, mq, hw⟩; have hbq : Below W.heap.size W w6 := hw ▸ pw_below_drewN (Below.refl _ _) mq; have n3_ := Aside0.mk (blk_below B3.out hbq); have n4_ := Aside0.mk (blk_below B4.out hbq); have n7_ := Aside0.mk (blk_below B7.out hbq); have nb_ := Aside0.mk (below_step HBW.out hbq); have HR6 := Aside0.mk (h2.move fun b cur _ hc => hbq.block b (blk_lt hc)); have HC6 := Aside0.mk h1; clear B3 B4 B7 HBW HRW hbq hw h1 h2; have B3 := n3_; have B4 := n4_; have B7 := n7_; have HBW := nb_; clear n3_ n4_ n7_ nb_; have hc3_0 : w6.cell? ⟨gb3, 0, none⟩ = some (.int .u8 k) := blk_cell B3.out 0; have hc3_4 : w6.cell? ⟨gb3, 4, none⟩ = some (.int .u64 m) := blk_cell B3.out 4; have hc7_0 : w6.cell? ⟨gb7, 0, none⟩ = some (.int .u8 k) := blk_cell B7.out 0; have hf7_0 := blk_frozen B7.out 0; have hc4_0 : w6.cell? ⟨gb4, 0, none⟩ = some (.int .u8 0) := blk_cell B4.out 0; have hf4_0 := blk_frozen B4.out 0; have hc7_1 : w6.cell? ⟨gb7, 1, none⟩ = some (.int .u64 0) := blk_cell B7.out 1; have hf7_1 := blk_frozen B7.out 1; have hc4_1 : w6.cell? ⟨gb4, 1, none⟩ = some (.int .u64 0) := blk_cell B4.out 1; have hf4_1 := blk_frozen B4.out 1; have hc7_2 : w6.cell? ⟨gb7, 2, none⟩ = some (.int .i64 0) := blk_cell B7.out 2; have hf7_2 := blk_frozen B7.out 2; have hc4_2 : w6.cell? ⟨gb4, 2, none⟩ = some (.int .i64 0) := blk_cell B4.out 2; have hf4_2 := blk_frozen B4.out 2; have hc7_3 : w6.cell? ⟨gb7, 3, none⟩ = some (.string (⟨#[]⟩ : ByteArray)) := blk_cell B7.out 3; have hf7_3 := blk_frozen B7.out 3; have hc4_3 : w6.cell? ⟨gb4, 3, none⟩ = some (.string (⟨#[]⟩ : ByteArray)) := blk_cell B4.out 3; have hf4_3 := blk_frozen B4.out 3; have hc7_4 : w6.cell? ⟨gb7, 4, none⟩ = some (.int .u64 0) := blk_cell B7.out 4; have hf7_4 := blk_frozen B7.out 4; have hc4_4 : w6.cell? ⟨gb4, 4, none⟩ = some (.int .u64 0) := blk_cell B4.out 4; have hf4_4 := blk_frozen B4.out 4; have n73 := Ne.symm n37; have n74 := Ne.symm n47; have n34 : gb3 ≠ gb4 := (by have := N34.out; omega); have n43 := Ne.symm n34))
  have GW4 : w.heap.size ≤ gb4 := by have := G3.out; have := N34.out; omega
  have GW7 : w.heap.size ≤ gb7 := by have := N47.out; omega
  refine bodyPost_ret (results_list (rs := [.cell 4 31, .tmp 5, .tmp 6]) rfl (by simp) (.cell gb4 31 #[.int .u8 k, .int .u64 0, .int .i64 0, .string (⟨#[]⟩ : ByteArray), .int .u64 0] (0, 0) _ rfl ?hgr Tryd.underlying31 rfl (by kernel_rfl) (.tmp (.tmp .nil)))) rfl ?_
  case hgr => exact (blk_put (blk_put (blk_put (blk_put (blk_put B4.out 0 _ rfl) 1 _ rfl) 2 _ rfl) 3 _ rfl) 4 _ rfl)
  exact ⟨rfl, (((((HBW.out.setCell (p := ⟨gb4, 0, none⟩) GW4 _).setCell (p := ⟨gb4, 1, none⟩) GW4 _).setCell (p := ⟨gb4, 2, none⟩) GW4 _).setCell (p := ⟨gb4, 3, none⟩) GW4 _).setCell (p := ⟨gb4, 4, none⟩) GW4 _)⟩
set_option maxHeartbeats 8000000 in
set_option maxRecDepth 100000 in
theorem tk_r8 (ops : Array Oper) (hops : Tryd.f10.body.bind (findR 8) = some (ops, true)) (Q : Exit → Act → World → Prop) (w : World) (gb7 : Nat) (n : Int) (A6 A8 : Option Addr) (L c6 L6 L8 c8 : Nat) (S : ByteArray) (x3 : Value) {ds : _} {t0 t1 t2 t3 t4 t5 t6 t9 t11 t12 t13 t14 t15 t16 t17 t18 t19 t20 t21 t22 t23 t24 t25 t26 t27 t28 t29 t30 t31 t32 t33 t34 t35 t36 t37 t38 t39 t40 t41 t42 t43 t44 t45 t46 t47 t48 t49 t50 t51 t52 t53 t54 t55 t56 t57 t58 t59 t60 t61 t62 t63 t64 t65 t66 t67 t68 t69 t70 t71 t72 t73 t74 t75 t76 t77 t78 t79 t80 t81 t82 t83 t84 t85 t86 t87 t88 t89 t90 t91 t92 t93 : Value}
    (hQ : ∀ c a d v w, Q (.panic c) (Act.put a d v) w → Q (.panic c) a w)
    (s1 : ∀ W : World, (Instr.slice 22 (.slice A6 L c6) none (some (.int .u64 n)) none).run Tryd.prog W = .ok (.slice A6 L6 c6) W) (s2 : ∀ W : World, (Instr.slice 22 (.slice A6 L c6) (some (.int .u64 n)) none none).run Tryd.prog W = .ok (.slice A8 L8 c8) W)
    (hcv : ∀ m : Unit, (convert 22 9 (.slice A6 L6 c6)).run Tryd.prog w.drew = .ok (.string S) w.drew) (hf7 : w.frozen? ⟨gb7, 3, none⟩ = false) (hc7 : w.cell? ⟨gb7, 3, none⟩ = some x3)
    (H : ∀ (u44 u45 u46 u47 u48 u49 u50 u51 : Value), Q .normal { tmps := (List.toArray (t0 :: t1 :: t2 :: t3 :: t4 :: t5 :: t6 :: .pointer (some ⟨gb7, 0, none⟩) :: .int .u64 n :: t9 :: .slice A8 L8 c8 :: t11 :: t12 :: t13 :: t14 :: t15 :: t16 :: t17 :: t18 :: t19 :: t20 :: t21 :: t22 :: t23 :: t24 :: t25 :: t26 :: t27 :: t28 :: t29 :: t30 :: t31 :: t32 :: t33 :: t34 :: t35 :: t36 :: t37 :: t38 :: t39 :: t40 :: t41 :: t42 :: t43 :: u44 :: u45 :: u46 :: u47 :: u48 :: u49 :: u50 :: u51 :: t52 :: t53 :: t54 :: t55 :: t56 :: t57 :: t58 :: t59 :: t60 :: t61 :: t62 :: t63 :: t64 :: t65 :: t66 :: t67 :: t68 :: t69 :: t70 :: t71 :: t72 :: t73 :: t74 :: t75 :: t76 :: t77 :: t78 :: t79 :: t80 :: t81 :: t82 :: t83 :: t84 :: t85 :: t86 :: t87 :: t88 :: t89 :: t90 :: t91 :: t92 :: t93 :: [])), defers := ds } (w.setCell ⟨gb7, 3, none⟩ (.string S)).drew) :
    Code.wp Tryd.prog (.region 8 ops true) Q { tmps := (List.toArray (t0 :: t1 :: t2 :: t3 :: t4 :: t5 :: t6 :: .pointer (some ⟨gb7, 0, none⟩) :: .int .u64 n :: t9 :: .slice A6 L c6 :: t11 :: t12 :: t13 :: t14 :: t15 :: t16 :: t17 :: t18 :: t19 :: t20 :: t21 :: t22 :: t23 :: t24 :: t25 :: t26 :: t27 :: t28 :: t29 :: t30 :: t31 :: t32 :: t33 :: t34 :: t35 :: t36 :: t37 :: t38 :: t39 :: t40 :: t41 :: t42 :: t43 :: t44 :: t45 :: t46 :: t47 :: t48 :: t49 :: t50 :: t51 :: t52 :: t53 :: t54 :: t55 :: t56 :: t57 :: t58 :: t59 :: t60 :: t61 :: t62 :: t63 :: t64 :: t65 :: t66 :: t67 :: t68 :: t69 :: t70 :: t71 :: t72 :: t73 :: t74 :: t75 :: t76 :: t77 :: t78 :: t79 :: t80 :: t81 :: t82 :: t83 :: t84 :: t85 :: t86 :: t87 :: t88 :: t89 :: t90 :: t91 :: t92 :: t93 :: [])), defers := ds } w := by
  simp [Tryd.f10, findR] at hops
  subst hops
  refine start_ (n := 10) (S := fun w' => (convert 22 9 (.slice A6 L6 c6)).run Tryd.prog w' = .ok (.string S) w') (ds := [8]) #[false, false, false, false, false, false, false, false, false, false] (by kernel_rfl) rfl rfl (hcv ()) (fun hHeld => ?_)
  refine pure_ (i := 0) (N := some 44) (v := ?_) (a' := ?_) #[true, false, false, false, false, false, false, false, false, false] rfl rfl (by kernel_rfl) (fun c a w h => hQ c _ _ _ w h) (Or.inl ⟨by rfl, ?_⟩) ?_ ?_
  rotate_left
  · intro w'
    go_simp
    (try simp only [s1, s2])
    (first | with_reducible rfl | rfl)
  rotate_left
  · simp only [Act.put, List.setIfInBounds_toArray, List.set_cons_zero, List.set_cons_succ, i64_w, i32_w]
    rfl
  refine pure_ (i := 1) (N := some 45) (v := ?_) (a' := ?_) #[true, true, false, false, false, false, false, false, false, false] rfl rfl (by kernel_rfl) (fun c a w h => hQ c _ _ _ w h) (Or.inl ⟨by rfl, ?_⟩) ?_ ?_
  rotate_left
  · intro w'
    go_simp
    (try simp only [s1, s2])
    (first | with_reducible rfl | rfl)
  rotate_left
  · simp only [Act.put, List.setIfInBounds_toArray, List.set_cons_zero, List.set_cons_succ, i64_w, i32_w]
    rfl
  refine pure_ (i := 2) (N := some 46) (v := ?_) (a' := ?_) #[true, true, true, false, false, false, false, false, false, false] rfl rfl (by kernel_rfl) (fun c a w h => hQ c _ _ _ w h) (Or.inl ⟨by rfl, ?_⟩) ?_ ?_
  rotate_left
  · intro w'
    go_simp
    (try simp only [s1, s2])
    (first | with_reducible rfl | rfl)
  rotate_left
  · simp only [Act.put, List.setIfInBounds_toArray, List.set_cons_zero, List.set_cons_succ, i64_w, i32_w]
    rfl
  refine pure_ (i := 4) (N := some 48) (v := ?_) (a' := ?_) #[true, true, true, false, true, false, false, false, false, false] rfl rfl (by kernel_rfl) (fun c a w h => hQ c _ _ _ w h) (Or.inl ⟨by rfl, ?_⟩) ?_ ?_
  rotate_left
  · intro w'
    go_simp
    (try simp only [s1, s2])
    (first | with_reducible rfl | rfl)
  rotate_left
  · simp only [Act.put, List.setIfInBounds_toArray, List.set_cons_zero, List.set_cons_succ, i64_w, i32_w]
    rfl
  refine pure_ (i := 5) (N := some 49) (v := ?_) (a' := ?_) #[true, true, true, false, true, true, false, false, false, false] rfl rfl (by kernel_rfl) (fun c a w h => hQ c _ _ _ w h) (Or.inl ⟨by rfl, ?_⟩) ?_ ?_
  rotate_left
  · intro w'
    go_simp
    (try simp only [s1, s2])
    (first | with_reducible rfl | rfl)
  rotate_left
  · simp only [Act.put, List.setIfInBounds_toArray, List.set_cons_zero, List.set_cons_succ, i64_w, i32_w]
    rfl
  refine pure_ (i := 6) (N := some 50) (v := ?_) (a' := ?_) #[true, true, true, false, true, true, true, false, false, false] rfl rfl (by kernel_rfl) (fun c a w h => hQ c _ _ _ w h) (Or.inl ⟨by rfl, ?_⟩) ?_ ?_
  rotate_left
  · intro w'
    go_simp
    (try simp only [s1, s2])
    (first | with_reducible rfl | rfl)
  rotate_left
  · simp only [Act.put, List.setIfInBounds_toArray, List.set_cons_zero, List.set_cons_succ, i64_w, i32_w]
    rfl
  refine take_ (i := 3) (N := some 47) (v := ?_) (a' := ?_) #[true, true, true, true, true, true, true, false, false, false] rfl rfl (by kernel_rfl) (fun c a w h => hQ c _ _ _ w h) (Or.inl ⟨by rfl, ?_⟩) hHeld ?_ ?_
  rotate_left
  · intro w' s0
    go_simp
    (try simp only [s0, s1, s2])
    (first | with_reducible rfl | rfl)
  rotate_left
  · simp only [Act.put, List.setIfInBounds_toArray, List.set_cons_zero, List.set_cons_succ, i64_w, i32_w]
    rfl
  refine pure_ (i := 7) (N := some 51) (v := ?_) (a' := ?_) #[true, true, true, true, true, true, true, true, false, false] rfl rfl (by kernel_rfl) (fun c a w h => hQ c _ _ _ w h) (Or.inl ⟨by rfl, ?_⟩) ?_ ?_
  rotate_left
  · intro w'
    go_simp
    (try simp only [s1, s2])
    (first | with_reducible rfl | rfl)
  rotate_left
  · simp only [Act.put, List.setIfInBounds_toArray, List.set_cons_zero, List.set_cons_succ, i64_w, i32_w]
    rfl
  refine last_ (i := 8) (N := none) #[true, true, true, true, true, true, true, true, true, false] rfl rfl (by kernel_rfl) (by decide) (fun K hK => ?_)
  refine skip_ (w1 := ?_) (by rfl) rfl ?_ ?_
  rotate_left
  · go_simp
    (try simp only [hf7, hc7, Bool.false_eq_true, if_false])
    rfl
  refine hK.out _ _ ?_
  clear hK K
  refine pure_ (i := 9) (N := some 10) (v := ?_) (a' := ?_) #[true, true, true, true, true, true, true, true, true, true] rfl rfl (by kernel_rfl) (fun c a w h => hQ c _ _ _ w h) (Or.inl ⟨by rfl, ?_⟩) ?_ ?_
  rotate_left
  · intro w'
    go_simp
    (try simp only [s1, s2])
    (first | with_reducible rfl | rfl)
  rotate_left
  · simp only [Act.put, List.setIfInBounds_toArray, List.set_cons_zero, List.set_cons_succ, i64_w, i32_w]
    rfl
  refine done_ (by kernel_rfl) ?_
  exact H _ _ _ _ _ _ _ _
set_option maxHeartbeats 8000000 in
set_option maxRecDepth 100000 in
theorem tk3 (N : Nat) (A : Option Addr) (c : Nat) (l : List Int) (k u i m : Int) (s : ByteArray) (w : World) (hc : l.length ≤ c) (hl : l.length ≤ 1000000) (hh : ∀ x ∈ l, 0 ≤ x ∧ x ≤ 255) (hR0 : RowB N w A l) (hk0 : 0 ≤ k) (hk1 : k ≤ 255) (hm0 : 0 ≤ m) (hm1 : m ≤ 18446744073709551615) (hk : k % 4 = 3) (n : Int) (r : List Int) (hi : inum l = some (n, false, r)) (hn0 : 0 ≤ n) (hn1 : n ≤ 18446744073709551615) (hnm : n ≤ m) (hrl : r.length ≤ 1000000) (hnl : n ≤ (r.length : Int)) :
    Calls Tryd.prog 10 #[.slice A l.length c, .agg #[.int .u8 k, .int .u64 u, .int .i64 i, .string s, .int .u64 m]] w fun e w' => ∃ A' c', e = .returned (.tuple #[.agg #[.int .u8 k, .int .u64 0, .int .i64 0, .string (strOfNums (r.take n.toNat)), .int .u64 0], .slice A' (r.drop n.toNat).length c', .bool true]) ∧ (r.drop n.toNat).length ≤ c' ∧ RowB N w' A' (r.drop n.toNat) ∧ Below w.heap.size w w' := by
  have hnum := fun (W : World) (hR : RowB N W A l) => ref_number N A c l W hc hl hh hR
  simp only [hi] at hnum
  have HNUM := Aside0.mk hnum
  have hR := Aside0.mk hR0
  have hkt : Int.tmod k 4 = k % 4 := Int.tmod_eq_emod_of_nonneg hk0
  have hlw : IntKind.u64.wrap (r.length : Int) = (r.length : Int) := by rw [IntKind.wrap_u64]; omega
  obtain ⟨S, hS⟩ : ∃ S, S = strOfNums (r.take n.toNat) := ⟨_, rfl⟩
  rw [← hS]
  have HS := Aside0.mk hS
  have HRL := Aside0.mk hrl
  clear hS hrl
  clear hnum hi hR0 hh
  generalize l.length = ll at HNUM hc hl ⊢
  go_enter Tryd.func10, Tryd.ntmps10
  go_upto_region 2 with (first | ((with_reducible refine gate_dst (N := 3) rfl ?_); (try (refine gate_guard (by rfl) ?_; dsimp only)); refine box_event ?hg (N := 3) ?hd (cs := #[.int .u8 k, .int .u64 u, .int .i64 i, .string s, .int .u64 m]) (t := 31) ?hr ?_; (case hd => rfl); (case hg => rfl); (case hr => first | (go_simp; done) | (go_simp; rfl)); intro gb3 hg w3 hbox hb; have BK3 := Aside0.mk hbox; have G3 := Aside0.mk (Nat.le_of_eq hg.symm : w.heap.size ≤ gb3); have HB := Aside0.mk hb; have HR3 := Aside0.mk (hR.out.move fun b cur _ hc => hb.block b (blk_lt hc)); clear hbox hb hg) | ((with_reducible refine gate_dst (N := 4) rfl ?_); (try (refine gate_guard (by rfl) ?_; dsimp only)); refine box_event ?hg (N := 4) ?hd (cs := #[.int .u8 0, .int .u64 0, .int .i64 0, .string (⟨#[]⟩ : ByteArray), .int .u64 0]) (t := 31) ?hr ?_; (case hd => rfl); (case hg => rfl); (case hr => first | (go_simp; done) | (go_simp; rfl)); intro gb4 hg w4 hbox hb; have n_ := Aside0.mk (blk_below BK3.out hb); have N34 := Aside0.mk (show gb3 < gb4 by have := blk_lt BK3.out; omega); clear BK3; have BK3 := n_; clear n_; have BK4 := Aside0.mk hbox; have n_ := Aside0.mk (below_step HB.out hb); clear HB; have HB := n_; clear n_; have n_ := Aside0.mk (HR3.out.move fun b cur _ hc => hb.block b (blk_lt hc)); clear HR3; have HR3 := n_; clear n_; have hc3 : w4.cell? ⟨gb3, 0, none⟩ = some (.int .u8 k) := blk_cell BK3.out 0; clear hbox hb hg) | ((with_reducible refine gate_dst (N := 7) rfl ?_); (try (refine gate_guard (by rfl) ?_; dsimp only)); refine box_event ?hg (N := 7) ?hd (cs := #[.int .u8 0, .int .u64 0, .int .i64 0, .string (⟨#[]⟩ : ByteArray), .int .u64 0]) (t := 31) ?hr ?_; (case hd => rfl); (case hg => rfl); (case hr => first | (go_simp; done) | (go_simp; rfl)); intro gb7 hg w7 hbox hb; have N47 := Aside0.mk (show gb4 < gb7 by have := blk_lt BK4.out; omega); have n_ := Aside0.mk (blk_below BK3.out hb); clear BK3; have BK3 := n_; clear n_; have n_ := Aside0.mk (blk_below BK4.out hb); clear BK4; have BK4 := n_; clear n_; have BK7 := Aside0.mk hbox; have n_ := Aside0.mk (below_step HB.out hb); clear HB; have HB := n_; clear n_; have n_ := Aside0.mk (HR3.out.move fun b cur _ hc => hb.block b (blk_lt hc)); clear HR3; have HR3 := n_; clear n_; clear hc3; have hcz_0 : w7.cell? ⟨gb7, 0, none⟩ = some (.int .u8 0) := blk_cell hbox 0; have hfz_0 := blk_frozen hbox 0; have hcz_1 : w7.cell? ⟨gb7, 1, none⟩ = some (.int .u64 0) := blk_cell hbox 1; have hfz_1 := blk_frozen hbox 1; have hcz_2 : w7.cell? ⟨gb7, 2, none⟩ = some (.int .i64 0) := blk_cell hbox 2; have hfz_2 := blk_frozen hbox 2; have hcz_3 : w7.cell? ⟨gb7, 3, none⟩ = some (.string (⟨#[]⟩ : ByteArray)) := blk_cell hbox 3; have hfz_3 := blk_frozen hbox 3; have hcz_4 : w7.cell? ⟨gb7, 4, none⟩ = some (.int .u64 0) := blk_cell hbox 4; have hfz_4 := blk_frozen hbox 4; skip; clear hbox hb hg))
  change Code.wp _ _ _ _ (setV w7 gb7 k 0 0 ⟨#[]⟩ 0)
  have hT7 : Ty w7 gb7 31 := Ty.of BK7.out
  have n37 : gb3 ≠ gb7 := by have := N34.out; have := N47.out; omega
  have n47 : gb4 ≠ gb7 := by have := N47.out; omega
  have B3 := Aside0.mk (show (setV w7 gb7 k 0 0 ⟨#[]⟩ 0).heap[gb3]? = some (.cells #[.int .u8 k, .int .u64 u, .int .i64 i, .string s, .int .u64 m] 31 (0, 0)) from blk_far (blk_far (blk_far (blk_far (blk_far BK3.out n37 _) n37 _) n37 _) n37 _) n37 _)
  have B4 := Aside0.mk (show (setV w7 gb7 k 0 0 ⟨#[]⟩ 0).heap[gb4]? = some (.cells #[.int .u8 0, .int .u64 0, .int .i64 0, .string (⟨#[]⟩ : ByteArray), .int .u64 0] 31 (0, 0)) from blk_far (blk_far (blk_far (blk_far (blk_far BK4.out n47 _) n47 _) n47 _) n47 _) n47 _)
  have B7 := Aside0.mk (setV_blk (x0 := k) (x1 := 0) (x2 := 0) (s := ⟨#[]⟩) (x4 := 0) BK7.out)
  have HBW := Aside0.mk (setV_below (x0 := k) (x1 := 0) (x2 := 0) (s := ⟨#[]⟩) (x4 := 0) HB.out (show w.heap.size ≤ gb7 by have := G3.out; have := N34.out; have := N47.out; omega))
  have HRW := Aside0.mk (RowB.setV (x0 := k) (x1 := 0) (x2 := 0) (s := ⟨#[]⟩) (x4 := 0) HR3.out hT7)
  clear BK3 BK4 BK7 HB HR3 hT7 hcz_0 hfz_0 hcz_1 hfz_1 hcz_2 hfz_2 hcz_3 hfz_3 hcz_4 hfz_4
  generalize setV w7 gb7 k 0 0 ⟨#[]⟩ 0 = W at B3 B4 B7 HBW HRW
  go_upto_region 8 with (first | (go_at_call 27; refine (HNUM.out W HRW.out).mono ?_; rintro e w6 ⟨⟨A6, c6, rfl, h1, h2⟩, mq, hw⟩; have hbq : Below W.heap.size W w6 := hw ▸ pw_below_drewN (Below.refl _ _) mq; have n3_ := Aside0.mk (blk_below B3.out hbq); have n4_ := Aside0.mk (blk_below B4.out hbq); have n7_ := Aside0.mk (blk_below B7.out hbq); have nb_ := Aside0.mk (below_step HBW.out hbq); have HR6 := Aside0.mk (h2.move fun b cur _ hc => hbq.block b (blk_lt hc)); have HC6 := Aside0.mk h1; clear B3 B4 B7 HBW HRW hbq hw h1 h2; have B3 := n3_; have B4 := n4_; have B7 := n7_; have HBW := nb_; clear n3_ n4_ n7_ nb_; have hc3_0 : w6.cell? ⟨gb3, 0, none⟩ = some (.int .u8 k) := blk_cell B3.out 0; have hc3_4 : w6.cell? ⟨gb3, 4, none⟩ = some (.int .u64 m) := blk_cell B3.out 4; have hc7_0 : w6.cell? ⟨gb7, 0, none⟩ = some (.int .u8 k) := blk_cell B7.out 0; have hf7_0 := blk_frozen B7.out 0; have hc4_0 : w6.cell? ⟨gb4, 0, none⟩ = some (.int .u8 0) := blk_cell B4.out 0; have hf4_0 := blk_frozen B4.out 0; have hc7_1 : w6.cell? ⟨gb7, 1, none⟩ = some (.int .u64 0) := blk_cell B7.out 1; have hf7_1 := blk_frozen B7.out 1; have hc4_1 : w6.cell? ⟨gb4, 1, none⟩ = some (.int .u64 0) := blk_cell B4.out 1; have hf4_1 := blk_frozen B4.out 1; have hc7_2 : w6.cell? ⟨gb7, 2, none⟩ = some (.int .i64 0) := blk_cell B7.out 2; have hf7_2 := blk_frozen B7.out 2; have hc4_2 : w6.cell? ⟨gb4, 2, none⟩ = some (.int .i64 0) := blk_cell B4.out 2; have hf4_2 := blk_frozen B4.out 2; have hc7_3 : w6.cell? ⟨gb7, 3, none⟩ = some (.string (⟨#[]⟩ : ByteArray)) := blk_cell B7.out 3; have hf7_3 := blk_frozen B7.out 3; have hc4_3 : w6.cell? ⟨gb4, 3, none⟩ = some (.string (⟨#[]⟩ : ByteArray)) := blk_cell B4.out 3; have hf4_3 := blk_frozen B4.out 3; have hc7_4 : w6.cell? ⟨gb7, 4, none⟩ = some (.int .u64 0) := blk_cell B7.out 4; have hf7_4 := blk_frozen B7.out 4; have hc4_4 : w6.cell? ⟨gb4, 4, none⟩ = some (.int .u64 0) := blk_cell B4.out 4; have hf4_4 := blk_frozen B4.out 4; have n73 := Ne.symm n37; have n74 := Ne.symm n47; have n34 : gb3 ≠ gb4 := (by have := N34.out; omega); have n43 := Ne.symm n34))
  obtain ⟨i0, hi, hzz⟩ := Option.map_eq_some_iff.1 byt_info
  simp only [Prod.mk.injEq] at hzz
  obtain ⟨hz0, hz1, hz2⟩ := hzz
  have hel : Tryd.prog.elem 22 = 5 := by simp [Program.elem, Tryd.underlying22]
  have hu : Tryd.prog.underlying 22 = some (.slice (Tryd.prog.elem 22)) := by rw [hel]; exact Tryd.underlying22
  have hc6 := HC6.out
  (try simp only at hc6)
  obtain ⟨A8, hA8⟩ : ∃ A', A' = (if c6 = n.toNat then A6 else A6.map (·.add n.toNat)) := ⟨_, rfl⟩
  have ha : (A6.map fun x => x.add 0) = A6 := by cases A6 <;> simp [Addr.add]
  have s1 : ∀ W : World, (Instr.slice 22 (.slice A6 r.length c6) none (some (.int .u64 n)) none).run Tryd.prog W = .ok (.slice A6 n.toNat c6) W := fun W => by
    rw [run_slice_h W 22 A6 r.length c6 hu .u64 n hn0 (by omega), hel]
    simp [sizeOf, typeInfo, hi, hz1, sliced, Result.andThen, ha]
  have s2 : ∀ W : World, (Instr.slice 22 (.slice A6 r.length c6) (some (.int .u64 n)) none none).run Tryd.prog W = .ok (.slice A8 (r.drop n.toNat).length (c6 - n.toNat)) W := fun W => by
    rw [run_slice_l W 22 A6 r.length c6 hu .u64 n hn0 hnl, hel, hA8]
    simp [sizeOf, typeInfo, hi, hz1, sliced, Result.andThen]
  have hcv : (convert 22 9 (.slice A6 n.toNat c6)).run Tryd.prog w6.drew = .ok (.string S) w6.drew := by
    have hlt : (r.take n.toNat).length = n.toNat := by rw [List.length_take]; omega
    have hrd := (HR6.out.take n.toNat).reads (by have := HRL.out; omega)
    rw [hlt] at hrd
    rw [HS.out]
    exact string_of_reads Tryd.underlying22 Tryd.underlying5 Tryd.underlying9 hrd
  have hrow8 := HR6.out.cut n.toNat c6 (by omega) hc6
  (try simp only at hrow8)
  rw [← hA8] at hrow8
  have hd8 : (r.drop n.toNat).length ≤ c6 - n.toNat := by rw [List.length_drop]; omega
  generalize hL8 : (r.drop n.toNat).length = L8 at s2 hd8 ⊢
  refine tk_r8 _ ?o8 _ _ gb7 n A6 A8 r.length c6 n.toNat L8 (c6 - n.toNat) S _ ?q8 s1 s2 (fun _ => hcv) (blk_frozen B7.out 3) ((blk_cell B7.out 3).trans rfl) ?H8
  case o8 => rfl
  case q8 => exact fun _ _ d _ _ h => by cases d <;> exact h
  case H8 =>
    intros
    have n4_ := Aside0.mk (show ((w6.setCell ⟨gb7, 3, none⟩ (.string S)).drew).heap[gb4]? = some (.cells #[.int .u8 0, .int .u64 0, .int .i64 0, .string (⟨#[]⟩ : ByteArray), .int .u64 0] 31 (0, 0)) from blk_drew (blk_far B4.out n47 _))
    have n7_ := Aside0.mk (show ((w6.setCell ⟨gb7, 3, none⟩ (.string S)).drew).heap[gb7]? = some (.cells #[.int .u8 k, .int .u64 0, .int .i64 0, .string S, .int .u64 0] 31 (0, 0)) from blk_drew (blk_put B7.out 3 _ rfl))
    have GW7 : w.heap.size ≤ gb7 := by have := G3.out; have := N34.out; have := N47.out; omega
    have GW4 : w.heap.size ≤ gb4 := by have := G3.out; have := N34.out; omega
    have nb_ := Aside0.mk (show Below w.heap.size w ((w6.setCell ⟨gb7, 3, none⟩ (.string S)).drew) from (HBW.out.setCell (p := ⟨gb7, 3, none⟩) GW7 _).drew)
    have nr_ := Aside0.mk (show RowB N ((w6.setCell ⟨gb7, 3, none⟩ (.string S)).drew) A8 (r.drop n.toNat) from RowB.set1 hrow8 (Ty.of B7.out) 3 _)
    have HD8 := Aside0.mk hd8
    have HL8 := Aside0.mk hL8
    clear s1 s2 hcv hrow8 hd8 hL8 hA8 ha hu hel hi hz0 hz1 hz2 hc6 B4 B7 HBW hc7_0 hf7_0 hc4_0 hf4_0 hc7_1 hf7_1 hc4_1 hf4_1 hc7_2 hf7_2 hc4_2 hf4_2 hc7_3 hf7_3 hc4_3 hf4_3 hc7_4 hf7_4 hc4_4 hf4_4 hc3_0 hc3_4
    generalize (w6.setCell ⟨gb7, 3, none⟩ (.string S)).drew = w8 at n4_ n7_ nb_ nr_ ⊢
    have B4 := n4_
    have B7 := n7_
    clear n4_ n7_
    have hc7_0 : w8.cell? ⟨gb7, 0, none⟩ = some (.int .u8 k) := blk_cell B7.out 0
    have hc4_0 : w8.cell? ⟨gb4, 0, none⟩ = some (.int .u8 0) := blk_cell B4.out 0
    have hf4_0 := blk_frozen B4.out 0
    have hc7_1 : w8.cell? ⟨gb7, 1, none⟩ = some (.int .u64 0) := blk_cell B7.out 1
    have hc4_1 : w8.cell? ⟨gb4, 1, none⟩ = some (.int .u64 0) := blk_cell B4.out 1
    have hf4_1 := blk_frozen B4.out 1
    have hc7_2 : w8.cell? ⟨gb7, 2, none⟩ = some (.int .i64 0) := blk_cell B7.out 2
    have hc4_2 : w8.cell? ⟨gb4, 2, none⟩ = some (.int .i64 0) := blk_cell B4.out 2
    have hf4_2 := blk_frozen B4.out 2
    have hc7_3 : w8.cell? ⟨gb7, 3, none⟩ = some (.string S) := blk_cell B7.out 3
    have hc4_3 : w8.cell? ⟨gb4, 3, none⟩ = some (.string (⟨#[]⟩ : ByteArray)) := blk_cell B4.out 3
    have hf4_3 := blk_frozen B4.out 3
    have hc7_4 : w8.cell? ⟨gb7, 4, none⟩ = some (.int .u64 0) := blk_cell B7.out 4
    have hc4_4 : w8.cell? ⟨gb4, 4, none⟩ = some (.int .u64 0) := blk_cell B4.out 4
    have hf4_4 := blk_frozen B4.out 4
    go_wp2
    refine bodyPost_ret (results_list (rs := [.cell 4 31, .tmp 5, .tmp 6]) rfl (by simp) (.cell gb4 31 #[.int .u8 k, .int .u64 0, .int .i64 0, .string S, .int .u64 0] (0, 0) _ rfl ?hgr Tryd.underlying31 rfl (by kernel_rfl) (.tmp (.tmp .nil)))) rfl ?_
    case hgr => exact (blk_put (blk_put (blk_put (blk_put (blk_put B4.out 0 _ rfl) 1 _ rfl) 2 _ rfl) 3 _ rfl) 4 _ rfl)
    have t4 : Ty w8 gb4 31 := Ty.of B4.out
    exact ⟨A8, c6 - n.toNat, by rw [HL8.out]; rfl, by rw [HL8.out]; exact HD8.out, RowB.set1 (RowB.set1 (RowB.set1 (RowB.set1 (RowB.set1 nr_.out t4 0 _) (t4.set _ _ _) 1 _) ((t4.set _ _ _).set _ _ _) 2 _) (((t4.set _ _ _).set _ _ _).set _ _ _) 3 _) ((((t4.set _ _ _).set _ _ _).set _ _ _).set _ _ _) 4 _, (((((nb_.out.setCell (p := ⟨gb4, 0, none⟩) GW4 _).setCell (p := ⟨gb4, 1, none⟩) GW4 _).setCell (p := ⟨gb4, 2, none⟩) GW4 _).setCell (p := ⟨gb4, 3, none⟩) GW4 _).setCell (p := ⟨gb4, 4, none⟩) GW4 _)⟩
/-- The document's Take: a value off the front, as it was asked, and what is left; or nothing. -/
def rtake (l : List Int) (k m : Int) : Option ((Int × Int × ByteArray) × List Int) := match inum l with
  | none => none
  | some (n, mk, r) =>
    if k % 4 = 0 then (if mk = false ∧ n ≤ m then some ((n, 0, ⟨#[]⟩), r) else none)
    else if k % 4 = 1 then (if n < 9223372036854775808 then some ((0, if mk = true then -1 - n else n, ⟨#[]⟩), r) else none)
    else if k % 4 = 2 then (if mk = false ∧ n ≤ 1 then some ((n, 0, ⟨#[]⟩), r) else none)
    else (if mk = false ∧ n ≤ m ∧ n ≤ (r.length : Int) then some ((0, 0, strOfNums (r.take n.toNat)), r.drop n.toNat) else none)
theorem inum_short {l : List Int} {n : Int} {m : Bool} {r : List Int} (e : inum l = some (n, m, r)) : r.length ≤ l.length := by
  rcases l with _ | ⟨h, t⟩
  · cases e
  · rw [inum_cons] at e
    split at e
    · cases e
    · injection e with e
      injection e with _ e
      injection e with _ e
      rw [← e, List.length_drop, List.length_cons]
      omega
theorem ref_Take (N : Nat) (A : Option Addr) (c : Nat) (l : List Int) (k u i m : Int) (s : ByteArray) (w : World) (hc : l.length ≤ c) (hl : l.length ≤ 1000000) (hh : ∀ x ∈ l, 0 ≤ x ∧ x ≤ 255) (hR0 : RowB N w A l) (hk0 : 0 ≤ k) (hk1 : k ≤ 255) (hm0 : 0 ≤ m) (hm1 : m ≤ 18446744073709551615) :
    Calls Tryd.prog 10 #[.slice A l.length c, .agg #[.int .u8 k, .int .u64 u, .int .i64 i, .string s, .int .u64 m]] w fun e w' =>
      match rtake l k m with
      | some ((U, I, S), r) => ∃ A' c', e = .returned (.tuple #[.agg #[.int .u8 k, .int .u64 U, .int .i64 I, .string S, .int .u64 0], .slice A' r.length c', .bool true]) ∧ r.length ≤ c' ∧ RowB N w' A' r ∧ Below w.heap.size w w'
      | none => e = .returned (.tuple #[.agg #[.int .u8 k, .int .u64 0, .int .i64 0, .string (⟨#[]⟩ : ByteArray), .int .u64 0], .slice none 0 0, .bool false]) ∧ Below w.heap.size w w' := by
  unfold rtake
  rcases hi : inum l with _ | ⟨n, mk, r⟩
  · exact tk_none N A c l k u i m s w hc hl hh hR0 hk0 hk1 hm0 hm1 hi
  · obtain ⟨_, hn0, hn1, _⟩ := inum_lay hh hi
    have hsh := inum_short hi
    simp only
    by_cases h0 : k % 4 = 0
    · simp only [if_pos h0]
      cases mk
      · by_cases hm : n ≤ m
        · rw [if_pos ⟨rfl, hm⟩]
          exact tk0 N A c l k u i m s w hc hl hh hR0 hk0 hk1 hm0 hm1 h0 n r hi hn0 hn1 hm
        · rw [if_neg (fun q => hm q.2)]
          exact tk0b N A c l k u i m s w hc hl hh hR0 hk0 hk1 hm0 hm1 h0 n r hi hn0 hn1 (by omega)
      · rw [if_neg (fun q => Bool.noConfusion q.1)]
        exact tk0m N A c l k u i m s w hc hl hh hR0 hk0 hk1 hm0 hm1 h0 n r hi hn0 hn1
    · simp only [if_neg h0]
      by_cases h1 : k % 4 = 1
      · simp only [if_pos h1]
        by_cases hb : n < 9223372036854775808
        · simp only [if_pos hb]
          cases mk
          · exact tk1 N A c l k u i m s w hc hl hh hR0 hk0 hk1 hm0 hm1 h1 n r hi hn0 hn1 hb
          · exact tk1m N A c l k u i m s w hc hl hh hR0 hk0 hk1 hm0 hm1 h1 n r hi hn0 hn1 hb
        · rw [if_neg hb]
          exact tk1b N A c l k u i m s w hc hl hh hR0 hk0 hk1 hm0 hm1 h1 n mk r hi hn0 hn1 (by omega)
      · simp only [if_neg h1]
        by_cases h2 : k % 4 = 2
        · simp only [if_pos h2]
          cases mk
          · by_cases hm : n ≤ 1
            · rw [if_pos ⟨rfl, hm⟩]
              exact tk2 N A c l k u i m s w hc hl hh hR0 hk0 hk1 hm0 hm1 h2 n r hi hn0 hn1 hm
            · rw [if_neg (fun q => hm q.2)]
              exact tk2b N A c l k u i m s w hc hl hh hR0 hk0 hk1 hm0 hm1 h2 n r hi hn0 hn1 (by omega)
          · rw [if_neg (fun q => Bool.noConfusion q.1)]
            exact tk2m N A c l k u i m s w hc hl hh hR0 hk0 hk1 hm0 hm1 h2 n r hi hn0 hn1
        · simp only [if_neg h2]
          have h3 : k % 4 = 3 := by omega
          cases mk
          · by_cases hm : n ≤ m
            · by_cases hr : n ≤ (r.length : Int)
              · rw [if_pos ⟨rfl, hm, hr⟩]
                exact tk3 N A c l k u i m s w hc hl hh hR0 hk0 hk1 hm0 hm1 h3 n r hi hn0 hn1 hm (by omega) hr
              · rw [if_neg (fun q => hr q.2.2)]
                exact tk3l N A c l k u i m s w hc hl hh hR0 hk0 hk1 hm0 hm1 h3 n r hi hn0 hn1 hm (by omega) (by omega)
            · rw [if_neg (fun q => hm q.2.1)]
              exact tk3b N A c l k u i m s w hc hl hh hR0 hk0 hk1 hm0 hm1 h3 n r hi hn0 hn1 (by omega)
          · rw [if_neg (fun q => Bool.noConfusion q.1)]
            exact tk3m N A c l k u i m s w hc hl hh hR0 hk0 hk1 hm0 hm1 h3 n r hi hn0 hn1

end Go.Proofs.YtdojgjbiilnjpaaDoor.M
