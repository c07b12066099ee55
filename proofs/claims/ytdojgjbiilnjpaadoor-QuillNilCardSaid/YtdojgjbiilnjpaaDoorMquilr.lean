import Derived.Test.YtdojgjbiilnjpaaDoorMquilq
import Derived.StillTailTactics
set_option linter.unusedVariables false
set_option linter.unusedSimpArgs false
namespace Go.Proofs.YtdojgjbiilnjpaaDoor.M
open Go.RowKit Go.Proofs.YtdojgjbiilnjpaaDoorW.PrintWords Go.Proofs.YtdojgjbiilnjpaaDoorW.PrintLast Go.Proofs.YtdojgjbiilnjpaaDoorW.PrintMore
theorem KeepQ.setNew {w w1 : World} {g : Nat} {row : Option Nat} (h : KeepQ w w1 g row) {b : Nat} (hb : w.heap.size ≤ b) (o : Nat) (u : Value) : KeepQ w (w1.setCell ⟨b, o, none⟩ u) g row :=
  ⟨h.os, h.tape, h.output, by simpa [World.setCell] using h.size, fun i hi hg hr => (Below.heap_setCell w1 ⟨b, o, none⟩ u i (by show i ≠ b; omega)).trans (h.block i hi hg hr)⟩
/-- A block's type. -/
def Ty (w : World) (b : Nat) (t : TypeId) : Prop := ∃ cs, w.heap[b]? = some (.cells cs t (0, 0))
theorem Ty.of {w : World} {b : Nat} {t : TypeId} {cs : Array Value} (h : w.heap[b]? = some (.cells cs t (0, 0))) : Ty w b t := ⟨cs, h⟩
theorem Ty.set {w : World} {b : Nat} {t : TypeId} (h : Ty w b t) (b' o : Nat) (u : Value) : Ty (w.setCell ⟨b', o, none⟩ u) b t := by
  obtain ⟨cs, h⟩ := h
  by_cases e : b = b'
  · subst e
    exact ⟨_, blk_set h o u⟩
  · exact ⟨_, blk_far h (p := ⟨b', o, none⟩) e u⟩
theorem Ty.ne {w : World} {b : Nat} {t t' : TypeId} (h : Ty w b t) (hne : t ≠ t') (cur : Array Value) : w.heap[b]? ≠ some (.cells cur t' (0, 0)) := fun e => by
  obtain ⟨cs, h⟩ := h
  rw [h] at e
  injection e with e
  injection e with _ e
  exact hne e
theorem LDone.far {N : Nat} {w w1 : World} {g b : Nat} {s : Option (List Int)} {t : TypeId} (h : LDone N w g s w1) (hb : Ty w1 b t) (ht : t ≠ 5) (hwb : w.heap.size ≤ b) (hg : g < w.heap.size) (o : Nat) (u : Value) : LDone N w g s (w1.setCell ⟨b, o, none⟩ u) :=
  ⟨h.1.keep ((KeepQ.refl w1 b none).set o u) (by omega) (by simp) (fun k e => by cases e) (hb.ne ht), h.2.setNew hwb o u⟩
theorem LDone.below {N : Nat} {w w1 w2 : World} {g : Nat} {s : Option (List Int)} (h : LDone N w g s w1) (hb : Below w1.heap.size w1 w2) : LDone N w g s w2 := ⟨h.1.below hb, h.2.below hb⟩
theorem LDone.blk {N : Nat} {w w1 : World} {g b : Nat} {s : Option (List Int)} {o : Obj} (h : LDone N w g s w1) (hb : w.heap[b]? = some o) (hne : b ≠ g) : w1.heap[b]? = some o := (h.2.block b (blk_lt hb) hne (by simp)).trans hb
/-- A value as it was asked. -/
def qtake (st : Option (List Int)) (k m : Int) : (Int × Int × ByteArray) × Option (List Int) :=
  if k % 4 = 0 then (((luint st m).1, 0, ⟨#[]⟩), (luint st m).2)
  else if k % 4 = 1 then ((0, (lint st).1, ⟨#[]⟩), (lint st).2)
  else if k % 4 = 2 then ((if (luint st 1).1 = 1 then 1 else 0, 0, ⟨#[]⟩), (luint st 1).2)
  else ((0, 0, (ltext st (m % 1000)).1), (ltext st (m % 1000)).2)
set_option maxHeartbeats 8000000 in
set_option maxRecDepth 100000 in
theorem law_take (k u i m : Int) (s : ByteArray) (hk0 : 0 ≤ k) (hk1 : k ≤ 255) (hm0 : 0 ≤ m) (hm1 : m ≤ 18446744073709551615) (N g : Nat) (st : Option (List Int)) (w : World) (hL : Le N w g st) (hg : g < w.heap.size) :
    Calls Tryd.prog 9 #[.pointer (some ⟨g, 0, none⟩), .agg #[.int .u8 k, .int .u64 u, .int .i64 i, .string s, .int .u64 m]] w fun e w' => e = .returned (.agg #[.int .u8 k, .int .u64 (qtake st k m).1.1, .int .i64 (qtake st k m).1.2.1, .string (qtake st k m).1.2.2, .int .u64 0]) ∧ LDone N w g (qtake st k m).2 w' := by
  have HL := Aside0.mk hL
  have hkt : Int.tmod k 4 = k % 4 := Int.tmod_eq_emod_of_nonneg hk0
  have hmt : Int.tmod m 1000 = m % 1000 := Int.tmod_eq_emod_of_nonneg hm0
  have hmw : wrap64 (m % 1000) = m % 1000 := by unfold wrap64; omega
  have hkk : k % 4 = 0 ∨ k % 4 = 1 ∨ k % 4 = 2 ∨ k % 4 = 3 := by omega
  clear hL
  unfold qtake
  rcases hkk with hk | hk | hk | hk
  · simp only [if_pos hk]
    generalize hU : luint st m = U
    have HU := Aside0.mk hU
    clear hU
    go_enter Tryd.func9, Tryd.ntmps9
    go_upto_region 2 with (first | ((with_reducible refine gate_dst (N := 3) rfl ?_); (try (refine gate_guard (by rfl) ?_; dsimp only)); refine box_event ?hg (N := 3) ?hd (cs := #[.int .u8 k, .int .u64 u, .int .i64 i, .string s, .int .u64 m]) (t := 31) ?hr ?_; (case hd => rfl); (case hg => rfl); (case hr => first | (go_simp; done) | (go_simp; rfl)); intro gb3 hg3 w3 hbox hb; have BK3 := Aside0.mk hbox; have B3 := Aside0.mk hb; have GE3 := Aside0.mk (Nat.le_of_eq hg3.symm : w.heap.size ≤ gb3); skip; clear hbox hb hg3) | ((with_reducible refine gate_dst (N := 4) rfl ?_); (try (refine gate_guard (by rfl) ?_; dsimp only)); refine box_event ?hg (N := 4) ?hd (cs := #[.int .u8 0, .int .u64 0, .int .i64 0, .string (⟨#[]⟩ : ByteArray), .int .u64 0]) (t := 31) ?hr ?_; (case hd => rfl); (case hg => rfl); (case hr => first | (go_simp; done) | (go_simp; rfl)); intro gb4 hg4 w4 hbox hb; have BK4 := Aside0.mk hbox; have B4 := Aside0.mk hb; have GE4 := Aside0.mk (Nat.le_of_eq hg4.symm : w3.heap.size ≤ gb4); have n3_ := Aside0.mk (blk_below BK3.out hb); clear BK3; have BK3 := n3_; clear n3_; have hc3 : w4.cell? ⟨gb3, 0, none⟩ = some (.int .u8 k) := blk_cell BK3.out 0; clear hbox hb hg4) | ((with_reducible refine gate_dst (N := 5) rfl ?_); (try (refine gate_guard (by rfl) ?_; dsimp only)); refine box_event ?hg (N := 5) ?hd (cs := #[.int .u8 0, .int .u64 0, .int .i64 0, .string (⟨#[]⟩ : ByteArray), .int .u64 0]) (t := 31) ?hr ?_; (case hd => rfl); (case hg => rfl); (case hr => first | (go_simp; done) | (go_simp; rfl)); intro gb5 hg5 w5 hbox hb; have BK5 := Aside0.mk hbox; have B5 := Aside0.mk hb; have GE5 := Aside0.mk (Nat.le_of_eq hg5.symm : w4.heap.size ≤ gb5); have BK3w4 := BK3; have n3_ := Aside0.mk (blk_below BK3.out hb); clear BK3; have BK3 := n3_; clear n3_; have BK4w4 := BK4; have n4_ := Aside0.mk (blk_below BK4.out hb); clear BK4; have BK4 := n4_; clear n4_; clear hc3; have hc3_0 : w5.cell? ⟨gb3, 0, none⟩ = some (.int .u8 k) := blk_cell BK3.out 0; have hc3_1 : w5.cell? ⟨gb3, 1, none⟩ = some (.int .u64 u) := blk_cell BK3.out 1; have hc3_2 : w5.cell? ⟨gb3, 2, none⟩ = some (.int .i64 i) := blk_cell BK3.out 2; have hc3_3 : w5.cell? ⟨gb3, 3, none⟩ = some (.string s) := blk_cell BK3.out 3; have hc3_4 : w5.cell? ⟨gb3, 4, none⟩ = some (.int .u64 m) := blk_cell BK3.out 4; have hf5_0 := blk_frozen hbox 0; have hc5_0 : w5.cell? ⟨gb5, 0, none⟩ = some (.int .u8 0) := blk_cell hbox 0; have hf5_1 := blk_frozen hbox 1; have hc5_1 : w5.cell? ⟨gb5, 1, none⟩ = some (.int .u64 0) := blk_cell hbox 1; have hf5_2 := blk_frozen hbox 2; have hc5_2 : w5.cell? ⟨gb5, 2, none⟩ = some (.int .i64 0) := blk_cell hbox 2; have hf5_3 := blk_frozen hbox 3; have hc5_3 : w5.cell? ⟨gb5, 3, none⟩ = some (.string (⟨#[]⟩ : ByteArray)) := blk_cell hbox 3; have hf5_4 := blk_frozen hbox 4; have hc5_4 : w5.cell? ⟨gb5, 4, none⟩ = some (.int .u64 0) := blk_cell hbox 4; have nb35 : gb3 ≠ gb5 := (by have h5 := GE5.out; have h3 := blk_lt BK3w4.out; omega); have nb53 := Ne.symm nb35; clear hbox hb hg5))
    obtain ⟨W, hW⟩ : ∃ W, W = (((((w5.setCell ⟨gb5, 0, none⟩ (.int .u8 k)).setCell ⟨gb5, 1, none⟩ (.int .u64 0)).setCell ⟨gb5, 2, none⟩ (.int .i64 0)).setCell ⟨gb5, 3, none⟩ (.string (⟨#[]⟩ : ByteArray))).setCell ⟨gb5, 4, none⟩ (.int .u64 0)) := ⟨_, rfl⟩
    rw [← hW]
    have n3_ := Aside0.mk (show W.heap[gb3]? = some (.cells #[.int .u8 k, .int .u64 u, .int .i64 i, .string s, .int .u64 m] 31 (0, 0)) by rw [hW]; exact blk_far (blk_far (blk_far (blk_far (blk_far BK3.out nb35 _) nb35 _) nb35 _) nb35 _) nb35 _)
    have nb45 : gb4 ≠ gb5 := by have h5 := GE5.out; have h4 := blk_lt BK4w4.out; omega
    have n4_ := Aside0.mk (show W.heap[gb4]? = some (.cells #[.int .u8 0, .int .u64 0, .int .i64 0, .string (⟨#[]⟩ : ByteArray), .int .u64 0] 31 (0, 0)) by rw [hW]; exact blk_far (blk_far (blk_far (blk_far (blk_far BK4.out nb45 _) nb45 _) nb45 _) nb45 _) nb45 _)
    have n5_ := Aside0.mk (show W.heap[gb5]? = some (.cells #[.int .u8 k, .int .u64 0, .int .i64 0, .string (⟨#[]⟩ : ByteArray), .int .u64 0] 31 (0, 0)) by rw [hW]; exact blk_put (blk_put (blk_put (blk_put (blk_put BK5.out 0 _ rfl) 1 _ rfl) 2 _ rfl) 3 _ rfl) 4 _ rfl)
    have GB4 := Aside0.mk (show w.heap.size ≤ gb4 by have := GE4.out; have := B3.out.size; omega)
    have GB5 := Aside0.mk (show w.heap.size ≤ gb5 by have := GE5.out; have := B3.out.size; have := B4.out.size; omega)
    have HLW := Aside0.mk (show LDone N w g st W by rw [hW]; have h0 : LDone N w g st w5 := ⟨((HL.out.below B3.out).below B4.out).below B5.out, (((KeepQ.refl w g none).below B3.out).below B4.out).below B5.out⟩; have t0 : Ty w5 gb5 31 := Ty.of BK5.out; exact ((((h0.far t0 (by decide) GB5.out hg 0 _).far (t0.set _ _ _) (by decide) GB5.out hg 1 _).far ((t0.set _ _ _).set _ _ _) (by decide) GB5.out hg 2 _).far (((t0.set _ _ _).set _ _ _).set _ _ _) (by decide) GB5.out hg 3 _).far ((((t0.set _ _ _).set _ _ _).set _ _ _).set _ _ _) (by decide) GB5.out hg 4 _)
    clear BK3 BK4 BK5 BK3w4 BK4w4 hc3_0 hf5_0 hc5_0 hc3_1 hf5_1 hc5_1 hc3_2 hf5_2 hc5_2 hc3_3 hf5_3 hc5_3 hc3_4 hf5_4 hc5_4
    have BK3 := n3_
    have BK4 := n4_
    have BK5 := n5_
    clear n3_ n4_ n5_ hW
    have hc3_0 : W.cell? ⟨gb3, 0, none⟩ = some (.int .u8 k) := blk_cell BK3.out 0
    have hc3_4 : W.cell? ⟨gb3, 4, none⟩ = some (.int .u64 m) := blk_cell BK3.out 4
    have HLE := Aside0.mk HLW.out.1
    have hcall := (lens_Uint N g st m hm0 W HLE.out)
    rw [HU.out] at hcall
    have HCALL := Aside0.mk hcall
    clear hcall
    go_wp2_with (first | (go_at_call 20; refine (HCALL.out).mono ?_; rintro e w6 ⟨rfl, hd⟩; have HD := Aside0.mk hd; have n3_ := Aside0.mk (hd.blk BK3.out (by have := GB4.out; have := blk_lt BK3.out; have := GE3.out; omega)); have n4_ := Aside0.mk (hd.blk BK4.out (by have := GB4.out; omega)); have n5_ := Aside0.mk (hd.blk BK5.out (by have := GB5.out; omega)); clear hd hc3_0 hc3_4 BK3 BK4 BK5; have BK3 := n3_; have BK4 := n4_; have BK5 := n5_; clear n3_ n4_ n5_; have hc5_0 : w6.cell? ⟨gb5, 0, none⟩ = some (.int .u8 k) := blk_cell BK5.out 0; have hf5_0 := blk_frozen BK5.out 0; have hc4_0 : w6.cell? ⟨gb4, 0, none⟩ = some (.int .u8 0) := blk_cell BK4.out 0; have hf4_0 := blk_frozen BK4.out 0; have hc5_1 : w6.cell? ⟨gb5, 1, none⟩ = some (.int .u64 0) := blk_cell BK5.out 1; have hf5_1 := blk_frozen BK5.out 1; have hc4_1 : w6.cell? ⟨gb4, 1, none⟩ = some (.int .u64 0) := blk_cell BK4.out 1; have hf4_1 := blk_frozen BK4.out 1; have hc5_2 : w6.cell? ⟨gb5, 2, none⟩ = some (.int .i64 0) := blk_cell BK5.out 2; have hf5_2 := blk_frozen BK5.out 2; have hc4_2 : w6.cell? ⟨gb4, 2, none⟩ = some (.int .i64 0) := blk_cell BK4.out 2; have hf4_2 := blk_frozen BK4.out 2; have hc5_3 : w6.cell? ⟨gb5, 3, none⟩ = some (.string (⟨#[]⟩ : ByteArray)) := blk_cell BK5.out 3; have hf5_3 := blk_frozen BK5.out 3; have hc4_3 : w6.cell? ⟨gb4, 3, none⟩ = some (.string (⟨#[]⟩ : ByteArray)) := blk_cell BK4.out 3; have hf4_3 := blk_frozen BK4.out 3; have hc5_4 : w6.cell? ⟨gb5, 4, none⟩ = some (.int .u64 0) := blk_cell BK5.out 4; have hf5_4 := blk_frozen BK5.out 4; have hc4_4 : w6.cell? ⟨gb4, 4, none⟩ = some (.int .u64 0) := blk_cell BK4.out 4; have hf4_4 := blk_frozen BK4.out 4; have nb54 := Ne.symm nb45))
    refine bodyPost_ret (results_cell_row (p := 4) (ty := 31) rfl _ _ gb4 31 #[.int .u8 k, .int .u64 U.1, .int .i64 0, .string (⟨#[]⟩ : ByteArray), .int .u64 0] (0, 0) _ rfl ?hgr Tryd.underlying31 rfl (by kernel_rfl)) rfl ⟨rfl, ?_⟩
    case hgr => exact (blk_put (blk_put (blk_put (blk_put (blk_put (blk_far BK4.out nb45 _) 0 _ rfl) 1 _ rfl) 2 _ rfl) 3 _ rfl) 4 _ rfl)
    have h0 : LDone N w g _ w6 := HLW.out.trans HD.out
    have t5 : Ty w6 gb5 31 := Ty.of BK5.out
    have t4 : Ty w6 gb4 31 := Ty.of BK4.out
    have h1 := h0.far t5 (by decide) GB5.out hg 1 (.int .u64 U.1)
    have t41 := t4.set gb5 1 (.int .u64 U.1)
    exact ((((h1.far t41 (by decide) GB4.out hg 0 _).far (t41.set _ _ _) (by decide) GB4.out hg 1 _).far ((t41.set _ _ _).set _ _ _) (by decide) GB4.out hg 2 _).far (((t41.set _ _ _).set _ _ _).set _ _ _) (by decide) GB4.out hg 3 _).far ((((t41.set _ _ _).set _ _ _).set _ _ _).set _ _ _) (by decide) GB4.out hg 4 _
  · simp only [if_neg (show ¬ k % 4 = 0 by omega), if_pos hk]
    generalize hU : lint st = U
    have HU := Aside0.mk hU
    clear hU
    go_enter Tryd.func9, Tryd.ntmps9
    go_upto_region 2 with (first | ((with_reducible refine gate_dst (N := 3) rfl ?_); (try (refine gate_guard (by rfl) ?_; dsimp only)); refine box_event ?hg (N := 3) ?hd (cs := #[.int .u8 k, .int .u64 u, .int .i64 i, .string s, .int .u64 m]) (t := 31) ?hr ?_; (case hd => rfl); (case hg => rfl); (case hr => first | (go_simp; done) | (go_simp; rfl)); intro gb3 hg3 w3 hbox hb; have BK3 := Aside0.mk hbox; have B3 := Aside0.mk hb; have GE3 := Aside0.mk (Nat.le_of_eq hg3.symm : w.heap.size ≤ gb3); skip; clear hbox hb hg3) | ((with_reducible refine gate_dst (N := 4) rfl ?_); (try (refine gate_guard (by rfl) ?_; dsimp only)); refine box_event ?hg (N := 4) ?hd (cs := #[.int .u8 0, .int .u64 0, .int .i64 0, .string (⟨#[]⟩ : ByteArray), .int .u64 0]) (t := 31) ?hr ?_; (case hd => rfl); (case hg => rfl); (case hr => first | (go_simp; done) | (go_simp; rfl)); intro gb4 hg4 w4 hbox hb; have BK4 := Aside0.mk hbox; have B4 := Aside0.mk hb; have GE4 := Aside0.mk (Nat.le_of_eq hg4.symm : w3.heap.size ≤ gb4); have n3_ := Aside0.mk (blk_below BK3.out hb); clear BK3; have BK3 := n3_; clear n3_; have hc3 : w4.cell? ⟨gb3, 0, none⟩ = some (.int .u8 k) := blk_cell BK3.out 0; clear hbox hb hg4) | ((with_reducible refine gate_dst (N := 5) rfl ?_); (try (refine gate_guard (by rfl) ?_; dsimp only)); refine box_event ?hg (N := 5) ?hd (cs := #[.int .u8 0, .int .u64 0, .int .i64 0, .string (⟨#[]⟩ : ByteArray), .int .u64 0]) (t := 31) ?hr ?_; (case hd => rfl); (case hg => rfl); (case hr => first | (go_simp; done) | (go_simp; rfl)); intro gb5 hg5 w5 hbox hb; have BK5 := Aside0.mk hbox; have B5 := Aside0.mk hb; have GE5 := Aside0.mk (Nat.le_of_eq hg5.symm : w4.heap.size ≤ gb5); have BK3w4 := BK3; have n3_ := Aside0.mk (blk_below BK3.out hb); clear BK3; have BK3 := n3_; clear n3_; have BK4w4 := BK4; have n4_ := Aside0.mk (blk_below BK4.out hb); clear BK4; have BK4 := n4_; clear n4_; clear hc3; have hc3_0 : w5.cell? ⟨gb3, 0, none⟩ = some (.int .u8 k) := blk_cell BK3.out 0; have hc3_1 : w5.cell? ⟨gb3, 1, none⟩ = some (.int .u64 u) := blk_cell BK3.out 1; have hc3_2 : w5.cell? ⟨gb3, 2, none⟩ = some (.int .i64 i) := blk_cell BK3.out 2; have hc3_3 : w5.cell? ⟨gb3, 3, none⟩ = some (.string s) := blk_cell BK3.out 3; have hc3_4 : w5.cell? ⟨gb3, 4, none⟩ = some (.int .u64 m) := blk_cell BK3.out 4; have hf5_0 := blk_frozen hbox 0; have hc5_0 : w5.cell? ⟨gb5, 0, none⟩ = some (.int .u8 0) := blk_cell hbox 0; have hf5_1 := blk_frozen hbox 1; have hc5_1 : w5.cell? ⟨gb5, 1, none⟩ = some (.int .u64 0) := blk_cell hbox 1; have hf5_2 := blk_frozen hbox 2; have hc5_2 : w5.cell? ⟨gb5, 2, none⟩ = some (.int .i64 0) := blk_cell hbox 2; have hf5_3 := blk_frozen hbox 3; have hc5_3 : w5.cell? ⟨gb5, 3, none⟩ = some (.string (⟨#[]⟩ : ByteArray)) := blk_cell hbox 3; have hf5_4 := blk_frozen hbox 4; have hc5_4 : w5.cell? ⟨gb5, 4, none⟩ = some (.int .u64 0) := blk_cell hbox 4; have nb35 : gb3 ≠ gb5 := (by have h5 := GE5.out; have h3 := blk_lt BK3w4.out; omega); have nb53 := Ne.symm nb35; clear hbox hb hg5))
    obtain ⟨W, hW⟩ : ∃ W, W = (((((w5.setCell ⟨gb5, 0, none⟩ (.int .u8 k)).setCell ⟨gb5, 1, none⟩ (.int .u64 0)).setCell ⟨gb5, 2, none⟩ (.int .i64 0)).setCell ⟨gb5, 3, none⟩ (.string (⟨#[]⟩ : ByteArray))).setCell ⟨gb5, 4, none⟩ (.int .u64 0)) := ⟨_, rfl⟩
    rw [← hW]
    have n3_ := Aside0.mk (show W.heap[gb3]? = some (.cells #[.int .u8 k, .int .u64 u, .int .i64 i, .string s, .int .u64 m] 31 (0, 0)) by rw [hW]; exact blk_far (blk_far (blk_far (blk_far (blk_far BK3.out nb35 _) nb35 _) nb35 _) nb35 _) nb35 _)
    have nb45 : gb4 ≠ gb5 := by have h5 := GE5.out; have h4 := blk_lt BK4w4.out; omega
    have n4_ := Aside0.mk (show W.heap[gb4]? = some (.cells #[.int .u8 0, .int .u64 0, .int .i64 0, .string (⟨#[]⟩ : ByteArray), .int .u64 0] 31 (0, 0)) by rw [hW]; exact blk_far (blk_far (blk_far (blk_far (blk_far BK4.out nb45 _) nb45 _) nb45 _) nb45 _) nb45 _)
    have n5_ := Aside0.mk (show W.heap[gb5]? = some (.cells #[.int .u8 k, .int .u64 0, .int .i64 0, .string (⟨#[]⟩ : ByteArray), .int .u64 0] 31 (0, 0)) by rw [hW]; exact blk_put (blk_put (blk_put (blk_put (blk_put BK5.out 0 _ rfl) 1 _ rfl) 2 _ rfl) 3 _ rfl) 4 _ rfl)
    have GB4 := Aside0.mk (show w.heap.size ≤ gb4 by have := GE4.out; have := B3.out.size; omega)
    have GB5 := Aside0.mk (show w.heap.size ≤ gb5 by have := GE5.out; have := B3.out.size; have := B4.out.size; omega)
    have HLW := Aside0.mk (show LDone N w g st W by rw [hW]; have h0 : LDone N w g st w5 := ⟨((HL.out.below B3.out).below B4.out).below B5.out, (((KeepQ.refl w g none).below B3.out).below B4.out).below B5.out⟩; have t0 : Ty w5 gb5 31 := Ty.of BK5.out; exact ((((h0.far t0 (by decide) GB5.out hg 0 _).far (t0.set _ _ _) (by decide) GB5.out hg 1 _).far ((t0.set _ _ _).set _ _ _) (by decide) GB5.out hg 2 _).far (((t0.set _ _ _).set _ _ _).set _ _ _) (by decide) GB5.out hg 3 _).far ((((t0.set _ _ _).set _ _ _).set _ _ _).set _ _ _) (by decide) GB5.out hg 4 _)
    clear BK3 BK4 BK5 BK3w4 BK4w4 hc3_0 hf5_0 hc5_0 hc3_1 hf5_1 hc5_1 hc3_2 hf5_2 hc5_2 hc3_3 hf5_3 hc5_3 hc3_4 hf5_4 hc5_4
    have BK3 := n3_
    have BK4 := n4_
    have BK5 := n5_
    clear n3_ n4_ n5_ hW
    have hc3_0 : W.cell? ⟨gb3, 0, none⟩ = some (.int .u8 k) := blk_cell BK3.out 0
    have hc3_4 : W.cell? ⟨gb3, 4, none⟩ = some (.int .u64 m) := blk_cell BK3.out 4
    have HLE := Aside0.mk HLW.out.1
    have hcall := (lens_Int N g st W HLE.out)
    rw [HU.out] at hcall
    have HCALL := Aside0.mk hcall
    clear hcall
    go_wp2_with (first | (go_at_call 21; refine (HCALL.out).mono ?_; rintro e w6 ⟨rfl, hd⟩; have HD := Aside0.mk hd; have n3_ := Aside0.mk (hd.blk BK3.out (by have := GB4.out; have := blk_lt BK3.out; have := GE3.out; omega)); have n4_ := Aside0.mk (hd.blk BK4.out (by have := GB4.out; omega)); have n5_ := Aside0.mk (hd.blk BK5.out (by have := GB5.out; omega)); clear hd hc3_0 hc3_4 BK3 BK4 BK5; have BK3 := n3_; have BK4 := n4_; have BK5 := n5_; clear n3_ n4_ n5_; have hc5_0 : w6.cell? ⟨gb5, 0, none⟩ = some (.int .u8 k) := blk_cell BK5.out 0; have hf5_0 := blk_frozen BK5.out 0; have hc4_0 : w6.cell? ⟨gb4, 0, none⟩ = some (.int .u8 0) := blk_cell BK4.out 0; have hf4_0 := blk_frozen BK4.out 0; have hc5_1 : w6.cell? ⟨gb5, 1, none⟩ = some (.int .u64 0) := blk_cell BK5.out 1; have hf5_1 := blk_frozen BK5.out 1; have hc4_1 : w6.cell? ⟨gb4, 1, none⟩ = some (.int .u64 0) := blk_cell BK4.out 1; have hf4_1 := blk_frozen BK4.out 1; have hc5_2 : w6.cell? ⟨gb5, 2, none⟩ = some (.int .i64 0) := blk_cell BK5.out 2; have hf5_2 := blk_frozen BK5.out 2; have hc4_2 : w6.cell? ⟨gb4, 2, none⟩ = some (.int .i64 0) := blk_cell BK4.out 2; have hf4_2 := blk_frozen BK4.out 2; have hc5_3 : w6.cell? ⟨gb5, 3, none⟩ = some (.string (⟨#[]⟩ : ByteArray)) := blk_cell BK5.out 3; have hf5_3 := blk_frozen BK5.out 3; have hc4_3 : w6.cell? ⟨gb4, 3, none⟩ = some (.string (⟨#[]⟩ : ByteArray)) := blk_cell BK4.out 3; have hf4_3 := blk_frozen BK4.out 3; have hc5_4 : w6.cell? ⟨gb5, 4, none⟩ = some (.int .u64 0) := blk_cell BK5.out 4; have hf5_4 := blk_frozen BK5.out 4; have hc4_4 : w6.cell? ⟨gb4, 4, none⟩ = some (.int .u64 0) := blk_cell BK4.out 4; have hf4_4 := blk_frozen BK4.out 4; have nb54 := Ne.symm nb45))
    refine bodyPost_ret (results_cell_row (p := 4) (ty := 31) rfl _ _ gb4 31 #[.int .u8 k, .int .u64 0, .int .i64 U.1, .string (⟨#[]⟩ : ByteArray), .int .u64 0] (0, 0) _ rfl ?hgr Tryd.underlying31 rfl (by kernel_rfl)) rfl ⟨rfl, ?_⟩
    case hgr => exact (blk_put (blk_put (blk_put (blk_put (blk_put (blk_far BK4.out nb45 _) 0 _ rfl) 1 _ rfl) 2 _ rfl) 3 _ rfl) 4 _ rfl)
    have h0 : LDone N w g _ w6 := HLW.out.trans HD.out
    have t5 : Ty w6 gb5 31 := Ty.of BK5.out
    have t4 : Ty w6 gb4 31 := Ty.of BK4.out
    have h1 := h0.far t5 (by decide) GB5.out hg 2 (.int .i64 U.1)
    have t41 := t4.set gb5 2 (.int .i64 U.1)
    exact ((((h1.far t41 (by decide) GB4.out hg 0 _).far (t41.set _ _ _) (by decide) GB4.out hg 1 _).far ((t41.set _ _ _).set _ _ _) (by decide) GB4.out hg 2 _).far (((t41.set _ _ _).set _ _ _).set _ _ _) (by decide) GB4.out hg 3 _).far ((((t41.set _ _ _).set _ _ _).set _ _ _).set _ _ _) (by decide) GB4.out hg 4 _
  · simp only [if_neg (show ¬ k % 4 = 0 by omega), if_neg (show ¬ k % 4 = 1 by omega), if_pos hk]
    generalize hU : luint st 1 = U
    have HU := Aside0.mk hU
    clear hU
    by_cases hu1 : U.1 = 1
    · rw [if_pos hu1]
      have HU1 := Aside0.mk hu1
      clear hu1
      go_enter Tryd.func9, Tryd.ntmps9
      go_upto_region 2 with (first | ((with_reducible refine gate_dst (N := 3) rfl ?_); (try (refine gate_guard (by rfl) ?_; dsimp only)); refine box_event ?hg (N := 3) ?hd (cs := #[.int .u8 k, .int .u64 u, .int .i64 i, .string s, .int .u64 m]) (t := 31) ?hr ?_; (case hd => rfl); (case hg => rfl); (case hr => first | (go_simp; done) | (go_simp; rfl)); intro gb3 hg3 w3 hbox hb; have BK3 := Aside0.mk hbox; have B3 := Aside0.mk hb; have GE3 := Aside0.mk (Nat.le_of_eq hg3.symm : w.heap.size ≤ gb3); skip; clear hbox hb hg3) | ((with_reducible refine gate_dst (N := 4) rfl ?_); (try (refine gate_guard (by rfl) ?_; dsimp only)); refine box_event ?hg (N := 4) ?hd (cs := #[.int .u8 0, .int .u64 0, .int .i64 0, .string (⟨#[]⟩ : ByteArray), .int .u64 0]) (t := 31) ?hr ?_; (case hd => rfl); (case hg => rfl); (case hr => first | (go_simp; done) | (go_simp; rfl)); intro gb4 hg4 w4 hbox hb; have BK4 := Aside0.mk hbox; have B4 := Aside0.mk hb; have GE4 := Aside0.mk (Nat.le_of_eq hg4.symm : w3.heap.size ≤ gb4); have n3_ := Aside0.mk (blk_below BK3.out hb); clear BK3; have BK3 := n3_; clear n3_; have hc3 : w4.cell? ⟨gb3, 0, none⟩ = some (.int .u8 k) := blk_cell BK3.out 0; clear hbox hb hg4) | ((with_reducible refine gate_dst (N := 5) rfl ?_); (try (refine gate_guard (by rfl) ?_; dsimp only)); refine box_event ?hg (N := 5) ?hd (cs := #[.int .u8 0, .int .u64 0, .int .i64 0, .string (⟨#[]⟩ : ByteArray), .int .u64 0]) (t := 31) ?hr ?_; (case hd => rfl); (case hg => rfl); (case hr => first | (go_simp; done) | (go_simp; rfl)); intro gb5 hg5 w5 hbox hb; have BK5 := Aside0.mk hbox; have B5 := Aside0.mk hb; have GE5 := Aside0.mk (Nat.le_of_eq hg5.symm : w4.heap.size ≤ gb5); have BK3w4 := BK3; have n3_ := Aside0.mk (blk_below BK3.out hb); clear BK3; have BK3 := n3_; clear n3_; have BK4w4 := BK4; have n4_ := Aside0.mk (blk_below BK4.out hb); clear BK4; have BK4 := n4_; clear n4_; clear hc3; have hc3_0 : w5.cell? ⟨gb3, 0, none⟩ = some (.int .u8 k) := blk_cell BK3.out 0; have hc3_1 : w5.cell? ⟨gb3, 1, none⟩ = some (.int .u64 u) := blk_cell BK3.out 1; have hc3_2 : w5.cell? ⟨gb3, 2, none⟩ = some (.int .i64 i) := blk_cell BK3.out 2; have hc3_3 : w5.cell? ⟨gb3, 3, none⟩ = some (.string s) := blk_cell BK3.out 3; have hc3_4 : w5.cell? ⟨gb3, 4, none⟩ = some (.int .u64 m) := blk_cell BK3.out 4; have hf5_0 := blk_frozen hbox 0; have hc5_0 : w5.cell? ⟨gb5, 0, none⟩ = some (.int .u8 0) := blk_cell hbox 0; have hf5_1 := blk_frozen hbox 1; have hc5_1 : w5.cell? ⟨gb5, 1, none⟩ = some (.int .u64 0) := blk_cell hbox 1; have hf5_2 := blk_frozen hbox 2; have hc5_2 : w5.cell? ⟨gb5, 2, none⟩ = some (.int .i64 0) := blk_cell hbox 2; have hf5_3 := blk_frozen hbox 3; have hc5_3 : w5.cell? ⟨gb5, 3, none⟩ = some (.string (⟨#[]⟩ : ByteArray)) := blk_cell hbox 3; have hf5_4 := blk_frozen hbox 4; have hc5_4 : w5.cell? ⟨gb5, 4, none⟩ = some (.int .u64 0) := blk_cell hbox 4; have nb35 : gb3 ≠ gb5 := (by have h5 := GE5.out; have h3 := blk_lt BK3w4.out; omega); have nb53 := Ne.symm nb35; clear hbox hb hg5))
      obtain ⟨W, hW⟩ : ∃ W, W = (((((w5.setCell ⟨gb5, 0, none⟩ (.int .u8 k)).setCell ⟨gb5, 1, none⟩ (.int .u64 0)).setCell ⟨gb5, 2, none⟩ (.int .i64 0)).setCell ⟨gb5, 3, none⟩ (.string (⟨#[]⟩ : ByteArray))).setCell ⟨gb5, 4, none⟩ (.int .u64 0)) := ⟨_, rfl⟩
      rw [← hW]
      have n3_ := Aside0.mk (show W.heap[gb3]? = some (.cells #[.int .u8 k, .int .u64 u, .int .i64 i, .string s, .int .u64 m] 31 (0, 0)) by rw [hW]; exact blk_far (blk_far (blk_far (blk_far (blk_far BK3.out nb35 _) nb35 _) nb35 _) nb35 _) nb35 _)
      have nb45 : gb4 ≠ gb5 := by have h5 := GE5.out; have h4 := blk_lt BK4w4.out; omega
      have n4_ := Aside0.mk (show W.heap[gb4]? = some (.cells #[.int .u8 0, .int .u64 0, .int .i64 0, .string (⟨#[]⟩ : ByteArray), .int .u64 0] 31 (0, 0)) by rw [hW]; exact blk_far (blk_far (blk_far (blk_far (blk_far BK4.out nb45 _) nb45 _) nb45 _) nb45 _) nb45 _)
      have n5_ := Aside0.mk (show W.heap[gb5]? = some (.cells #[.int .u8 k, .int .u64 0, .int .i64 0, .string (⟨#[]⟩ : ByteArray), .int .u64 0] 31 (0, 0)) by rw [hW]; exact blk_put (blk_put (blk_put (blk_put (blk_put BK5.out 0 _ rfl) 1 _ rfl) 2 _ rfl) 3 _ rfl) 4 _ rfl)
      have GB4 := Aside0.mk (show w.heap.size ≤ gb4 by have := GE4.out; have := B3.out.size; omega)
      have GB5 := Aside0.mk (show w.heap.size ≤ gb5 by have := GE5.out; have := B3.out.size; have := B4.out.size; omega)
      have HLW := Aside0.mk (show LDone N w g st W by rw [hW]; have h0 : LDone N w g st w5 := ⟨((HL.out.below B3.out).below B4.out).below B5.out, (((KeepQ.refl w g none).below B3.out).below B4.out).below B5.out⟩; have t0 : Ty w5 gb5 31 := Ty.of BK5.out; exact ((((h0.far t0 (by decide) GB5.out hg 0 _).far (t0.set _ _ _) (by decide) GB5.out hg 1 _).far ((t0.set _ _ _).set _ _ _) (by decide) GB5.out hg 2 _).far (((t0.set _ _ _).set _ _ _).set _ _ _) (by decide) GB5.out hg 3 _).far ((((t0.set _ _ _).set _ _ _).set _ _ _).set _ _ _) (by decide) GB5.out hg 4 _)
      clear BK3 BK4 BK5 BK3w4 BK4w4 hc3_0 hf5_0 hc5_0 hc3_1 hf5_1 hc5_1 hc3_2 hf5_2 hc5_2 hc3_3 hf5_3 hc5_3 hc3_4 hf5_4 hc5_4
      have BK3 := n3_
      have BK4 := n4_
      have BK5 := n5_
      clear n3_ n4_ n5_ hW
      have hc3_0 : W.cell? ⟨gb3, 0, none⟩ = some (.int .u8 k) := blk_cell BK3.out 0
      have hc3_4 : W.cell? ⟨gb3, 4, none⟩ = some (.int .u64 m) := blk_cell BK3.out 4
      have HLE := Aside0.mk HLW.out.1
      have hcall := lens_Flag N g st W HLE.out
      rw [HU.out, show (U.1 == 1) = true by rw [HU1.out]; rfl] at hcall
      have HCALL := Aside0.mk hcall
      clear hcall
      go_wp2_with (first | (go_at_call 22; refine (HCALL.out).mono ?_; rintro e w6 ⟨rfl, hd⟩; have HD := Aside0.mk hd; have n3_ := Aside0.mk (hd.blk BK3.out (by have := GB4.out; have := blk_lt BK3.out; have := GE3.out; omega)); have n4_ := Aside0.mk (hd.blk BK4.out (by have := GB4.out; omega)); have n5_ := Aside0.mk (hd.blk BK5.out (by have := GB5.out; omega)); clear hd hc3_0 hc3_4 BK3 BK4 BK5; have BK3 := n3_; have BK4 := n4_; have BK5 := n5_; clear n3_ n4_ n5_; have hc5_0 : w6.cell? ⟨gb5, 0, none⟩ = some (.int .u8 k) := blk_cell BK5.out 0; have hf5_0 := blk_frozen BK5.out 0; have hc4_0 : w6.cell? ⟨gb4, 0, none⟩ = some (.int .u8 0) := blk_cell BK4.out 0; have hf4_0 := blk_frozen BK4.out 0; have hc5_1 : w6.cell? ⟨gb5, 1, none⟩ = some (.int .u64 0) := blk_cell BK5.out 1; have hf5_1 := blk_frozen BK5.out 1; have hc4_1 : w6.cell? ⟨gb4, 1, none⟩ = some (.int .u64 0) := blk_cell BK4.out 1; have hf4_1 := blk_frozen BK4.out 1; have hc5_2 : w6.cell? ⟨gb5, 2, none⟩ = some (.int .i64 0) := blk_cell BK5.out 2; have hf5_2 := blk_frozen BK5.out 2; have hc4_2 : w6.cell? ⟨gb4, 2, none⟩ = some (.int .i64 0) := blk_cell BK4.out 2; have hf4_2 := blk_frozen BK4.out 2; have hc5_3 : w6.cell? ⟨gb5, 3, none⟩ = some (.string (⟨#[]⟩ : ByteArray)) := blk_cell BK5.out 3; have hf5_3 := blk_frozen BK5.out 3; have hc4_3 : w6.cell? ⟨gb4, 3, none⟩ = some (.string (⟨#[]⟩ : ByteArray)) := blk_cell BK4.out 3; have hf4_3 := blk_frozen BK4.out 3; have hc5_4 : w6.cell? ⟨gb5, 4, none⟩ = some (.int .u64 0) := blk_cell BK5.out 4; have hf5_4 := blk_frozen BK5.out 4; have hc4_4 : w6.cell? ⟨gb4, 4, none⟩ = some (.int .u64 0) := blk_cell BK4.out 4; have hf4_4 := blk_frozen BK4.out 4; have nb54 := Ne.symm nb45))
      refine bodyPost_ret (results_cell_row (p := 4) (ty := 31) rfl _ _ gb4 31 #[.int .u8 k, .int .u64 1, .int .i64 0, .string (⟨#[]⟩ : ByteArray), .int .u64 0] (0, 0) _ rfl ?hgr Tryd.underlying31 rfl (by kernel_rfl)) rfl ⟨rfl, ?_⟩
      case hgr => exact (blk_put (blk_put (blk_put (blk_put (blk_put (blk_far BK4.out nb45 _) 0 _ rfl) 1 _ rfl) 2 _ rfl) 3 _ rfl) 4 _ rfl)
      have h0 : LDone N w g _ w6 := HLW.out.trans HD.out
      have t5 : Ty w6 gb5 31 := Ty.of BK5.out
      have t4 : Ty w6 gb4 31 := Ty.of BK4.out
      have h1 := h0.far t5 (by decide) GB5.out hg 1 (.int .u64 1)
      have t41 := t4.set gb5 1 (.int .u64 1)
      exact ((((h1.far t41 (by decide) GB4.out hg 0 _).far (t41.set _ _ _) (by decide) GB4.out hg 1 _).far ((t41.set _ _ _).set _ _ _) (by decide) GB4.out hg 2 _).far (((t41.set _ _ _).set _ _ _).set _ _ _) (by decide) GB4.out hg 3 _).far ((((t41.set _ _ _).set _ _ _).set _ _ _).set _ _ _) (by decide) GB4.out hg 4 _
    · rw [if_neg hu1]
      have HU1 := Aside0.mk hu1
      clear hu1
      go_enter Tryd.func9, Tryd.ntmps9
      go_upto_region 2 with (first | ((with_reducible refine gate_dst (N := 3) rfl ?_); (try (refine gate_guard (by rfl) ?_; dsimp only)); refine box_event ?hg (N := 3) ?hd (cs := #[.int .u8 k, .int .u64 u, .int .i64 i, .string s, .int .u64 m]) (t := 31) ?hr ?_; (case hd => rfl); (case hg => rfl); (case hr => first | (go_simp; done) | (go_simp; rfl)); intro gb3 hg3 w3 hbox hb; have BK3 := Aside0.mk hbox; have B3 := Aside0.mk hb; have GE3 := Aside0.mk (Nat.le_of_eq hg3.symm : w.heap.size ≤ gb3); skip; clear hbox hb hg3) | ((with_reducible refine gate_dst (N := 4) rfl ?_); (try (refine gate_guard (by rfl) ?_; dsimp only)); refine box_event ?hg (N := 4) ?hd (cs := #[.int .u8 0, .int .u64 0, .int .i64 0, .string (⟨#[]⟩ : ByteArray), .int .u64 0]) (t := 31) ?hr ?_; (case hd => rfl); (case hg => rfl); (case hr => first | (go_simp; done) | (go_simp; rfl)); intro gb4 hg4 w4 hbox hb; have BK4 := Aside0.mk hbox; have B4 := Aside0.mk hb; have GE4 := Aside0.mk (Nat.le_of_eq hg4.symm : w3.heap.size ≤ gb4); have n3_ := Aside0.mk (blk_below BK3.out hb); clear BK3; have BK3 := n3_; clear n3_; have hc3 : w4.cell? ⟨gb3, 0, none⟩ = some (.int .u8 k) := blk_cell BK3.out 0; clear hbox hb hg4) | ((with_reducible refine gate_dst (N := 5) rfl ?_); (try (refine gate_guard (by rfl) ?_; dsimp only)); refine box_event ?hg (N := 5) ?hd (cs := #[.int .u8 0, .int .u64 0, .int .i64 0, .string (⟨#[]⟩ : ByteArray), .int .u64 0]) (t := 31) ?hr ?_; (case hd => rfl); (case hg => rfl); (case hr => first | (go_simp; done) | (go_simp; rfl)); intro gb5 hg5 w5 hbox hb; have BK5 := Aside0.mk hbox; have B5 := Aside0.mk hb; have GE5 := Aside0.mk (Nat.le_of_eq hg5.symm : w4.heap.size ≤ gb5); have BK3w4 := BK3; have n3_ := Aside0.mk (blk_below BK3.out hb); clear BK3; have BK3 := n3_; clear n3_; have BK4w4 := BK4; have n4_ := Aside0.mk (blk_below BK4.out hb); clear BK4; have BK4 := n4_; clear n4_; clear hc3; have hc3_0 : w5.cell? ⟨gb3, 0, none⟩ = some (.int .u8 k) := blk_cell BK3.out 0; have hc3_1 : w5.cell? ⟨gb3, 1, none⟩ = some (.int .u64 u) := blk_cell BK3.out 1; have hc3_2 : w5.cell? ⟨gb3, 2, none⟩ = some (.int .i64 i) := blk_cell BK3.out 2; have hc3_3 : w5.cell? ⟨gb3, 3, none⟩ = some (.string s) := blk_cell BK3.out 3; have hc3_4 : w5.cell? ⟨gb3, 4, none⟩ = some (.int .u64 m) := blk_cell BK3.out 4; have hf5_0 := blk_frozen hbox 0; have hc5_0 : w5.cell? ⟨gb5, 0, none⟩ = some (.int .u8 0) := blk_cell hbox 0; have hf5_1 := blk_frozen hbox 1; have hc5_1 : w5.cell? ⟨gb5, 1, none⟩ = some (.int .u64 0) := blk_cell hbox 1; have hf5_2 := blk_frozen hbox 2; have hc5_2 : w5.cell? ⟨gb5, 2, none⟩ = some (.int .i64 0) := blk_cell hbox 2; have hf5_3 := blk_frozen hbox 3; have hc5_3 : w5.cell? ⟨gb5, 3, none⟩ = some (.string (⟨#[]⟩ : ByteArray)) := blk_cell hbox 3; have hf5_4 := blk_frozen hbox 4; have hc5_4 : w5.cell? ⟨gb5, 4, none⟩ = some (.int .u64 0) := blk_cell hbox 4; have nb35 : gb3 ≠ gb5 := (by have h5 := GE5.out; have h3 := blk_lt BK3w4.out; omega); have nb53 := Ne.symm nb35; clear hbox hb hg5))
      obtain ⟨W, hW⟩ : ∃ W, W = (((((w5.setCell ⟨gb5, 0, none⟩ (.int .u8 k)).setCell ⟨gb5, 1, none⟩ (.int .u64 0)).setCell ⟨gb5, 2, none⟩ (.int .i64 0)).setCell ⟨gb5, 3, none⟩ (.string (⟨#[]⟩ : ByteArray))).setCell ⟨gb5, 4, none⟩ (.int .u64 0)) := ⟨_, rfl⟩
      rw [← hW]
      have n3_ := Aside0.mk (show W.heap[gb3]? = some (.cells #[.int .u8 k, .int .u64 u, .int .i64 i, .string s, .int .u64 m] 31 (0, 0)) by rw [hW]; exact blk_far (blk_far (blk_far (blk_far (blk_far BK3.out nb35 _) nb35 _) nb35 _) nb35 _) nb35 _)
      have nb45 : gb4 ≠ gb5 := by have h5 := GE5.out; have h4 := blk_lt BK4w4.out; omega
      have n4_ := Aside0.mk (show W.heap[gb4]? = some (.cells #[.int .u8 0, .int .u64 0, .int .i64 0, .string (⟨#[]⟩ : ByteArray), .int .u64 0] 31 (0, 0)) by rw [hW]; exact blk_far (blk_far (blk_far (blk_far (blk_far BK4.out nb45 _) nb45 _) nb45 _) nb45 _) nb45 _)
      have n5_ := Aside0.mk (show W.heap[gb5]? = some (.cells #[.int .u8 k, .int .u64 0, .int .i64 0, .string (⟨#[]⟩ : ByteArray), .int .u64 0] 31 (0, 0)) by rw [hW]; exact blk_put (blk_put (blk_put (blk_put (blk_put BK5.out 0 _ rfl) 1 _ rfl) 2 _ rfl) 3 _ rfl) 4 _ rfl)
      have GB4 := Aside0.mk (show w.heap.size ≤ gb4 by have := GE4.out; have := B3.out.size; omega)
      have GB5 := Aside0.mk (show w.heap.size ≤ gb5 by have := GE5.out; have := B3.out.size; have := B4.out.size; omega)
      have HLW := Aside0.mk (show LDone N w g st W by rw [hW]; have h0 : LDone N w g st w5 := ⟨((HL.out.below B3.out).below B4.out).below B5.out, (((KeepQ.refl w g none).below B3.out).below B4.out).below B5.out⟩; have t0 : Ty w5 gb5 31 := Ty.of BK5.out; exact ((((h0.far t0 (by decide) GB5.out hg 0 _).far (t0.set _ _ _) (by decide) GB5.out hg 1 _).far ((t0.set _ _ _).set _ _ _) (by decide) GB5.out hg 2 _).far (((t0.set _ _ _).set _ _ _).set _ _ _) (by decide) GB5.out hg 3 _).far ((((t0.set _ _ _).set _ _ _).set _ _ _).set _ _ _) (by decide) GB5.out hg 4 _)
      clear BK3 BK4 BK5 BK3w4 BK4w4 hc3_0 hf5_0 hc5_0 hc3_1 hf5_1 hc5_1 hc3_2 hf5_2 hc5_2 hc3_3 hf5_3 hc5_3 hc3_4 hf5_4 hc5_4
      have BK3 := n3_
      have BK4 := n4_
      have BK5 := n5_
      clear n3_ n4_ n5_ hW
      have hc3_0 : W.cell? ⟨gb3, 0, none⟩ = some (.int .u8 k) := blk_cell BK3.out 0
      have hc3_4 : W.cell? ⟨gb3, 4, none⟩ = some (.int .u64 m) := blk_cell BK3.out 4
      have HLE := Aside0.mk HLW.out.1
      have hcall := lens_Flag N g st W HLE.out
      rw [HU.out, show (U.1 == 1) = false by have := HU1.out; simpa using this] at hcall
      have HCALL := Aside0.mk hcall
      clear hcall
      go_wp2_with (first | (go_at_call 22; refine (HCALL.out).mono ?_; rintro e w6 ⟨rfl, hd⟩; have HD := Aside0.mk hd; have n3_ := Aside0.mk (hd.blk BK3.out (by have := GB4.out; have := blk_lt BK3.out; have := GE3.out; omega)); have n4_ := Aside0.mk (hd.blk BK4.out (by have := GB4.out; omega)); have n5_ := Aside0.mk (hd.blk BK5.out (by have := GB5.out; omega)); clear hd hc3_0 hc3_4 BK3 BK4 BK5; have BK3 := n3_; have BK4 := n4_; have BK5 := n5_; clear n3_ n4_ n5_; have hc5_0 : w6.cell? ⟨gb5, 0, none⟩ = some (.int .u8 k) := blk_cell BK5.out 0; have hf5_0 := blk_frozen BK5.out 0; have hc4_0 : w6.cell? ⟨gb4, 0, none⟩ = some (.int .u8 0) := blk_cell BK4.out 0; have hf4_0 := blk_frozen BK4.out 0; have hc5_1 : w6.cell? ⟨gb5, 1, none⟩ = some (.int .u64 0) := blk_cell BK5.out 1; have hf5_1 := blk_frozen BK5.out 1; have hc4_1 : w6.cell? ⟨gb4, 1, none⟩ = some (.int .u64 0) := blk_cell BK4.out 1; have hf4_1 := blk_frozen BK4.out 1; have hc5_2 : w6.cell? ⟨gb5, 2, none⟩ = some (.int .i64 0) := blk_cell BK5.out 2; have hf5_2 := blk_frozen BK5.out 2; have hc4_2 : w6.cell? ⟨gb4, 2, none⟩ = some (.int .i64 0) := blk_cell BK4.out 2; have hf4_2 := blk_frozen BK4.out 2; have hc5_3 : w6.cell? ⟨gb5, 3, none⟩ = some (.string (⟨#[]⟩ : ByteArray)) := blk_cell BK5.out 3; have hf5_3 := blk_frozen BK5.out 3; have hc4_3 : w6.cell? ⟨gb4, 3, none⟩ = some (.string (⟨#[]⟩ : ByteArray)) := blk_cell BK4.out 3; have hf4_3 := blk_frozen BK4.out 3; have hc5_4 : w6.cell? ⟨gb5, 4, none⟩ = some (.int .u64 0) := blk_cell BK5.out 4; have hf5_4 := blk_frozen BK5.out 4; have hc4_4 : w6.cell? ⟨gb4, 4, none⟩ = some (.int .u64 0) := blk_cell BK4.out 4; have hf4_4 := blk_frozen BK4.out 4; have nb54 := Ne.symm nb45))
      refine bodyPost_ret (results_cell_row (p := 4) (ty := 31) rfl _ _ gb4 31 #[.int .u8 k, .int .u64 0, .int .i64 0, .string (⟨#[]⟩ : ByteArray), .int .u64 0] (0, 0) _ rfl ?hgr Tryd.underlying31 rfl (by kernel_rfl)) rfl ⟨rfl, ?_⟩
      case hgr => exact (blk_put (blk_put (blk_put (blk_put (blk_put BK4.out 0 _ rfl) 1 _ rfl) 2 _ rfl) 3 _ rfl) 4 _ rfl)
      have h0 : LDone N w g _ w6 := HLW.out.trans HD.out
      have t5 : Ty w6 gb5 31 := Ty.of BK5.out
      have t4 : Ty w6 gb4 31 := Ty.of BK4.out
      have h1 := h0
      have t41 := t4
      exact ((((h1.far t41 (by decide) GB4.out hg 0 _).far (t41.set _ _ _) (by decide) GB4.out hg 1 _).far ((t41.set _ _ _).set _ _ _) (by decide) GB4.out hg 2 _).far (((t41.set _ _ _).set _ _ _).set _ _ _) (by decide) GB4.out hg 3 _).far ((((t41.set _ _ _).set _ _ _).set _ _ _).set _ _ _) (by decide) GB4.out hg 4 _
  · simp only [if_neg (show ¬ k % 4 = 0 by omega), if_neg (show ¬ k % 4 = 1 by omega), if_neg (show ¬ k % 4 = 2 by omega)]
    generalize hU : ltext st (m % 1000) = U
    have HU := Aside0.mk hU
    clear hU
    go_enter Tryd.func9, Tryd.ntmps9
    go_upto_region 2 with (first | ((with_reducible refine gate_dst (N := 3) rfl ?_); (try (refine gate_guard (by rfl) ?_; dsimp only)); refine box_event ?hg (N := 3) ?hd (cs := #[.int .u8 k, .int .u64 u, .int .i64 i, .string s, .int .u64 m]) (t := 31) ?hr ?_; (case hd => rfl); (case hg => rfl); (case hr => first | (go_simp; done) | (go_simp; rfl)); intro gb3 hg3 w3 hbox hb; have BK3 := Aside0.mk hbox; have B3 := Aside0.mk hb; have GE3 := Aside0.mk (Nat.le_of_eq hg3.symm : w.heap.size ≤ gb3); skip; clear hbox hb hg3) | ((with_reducible refine gate_dst (N := 4) rfl ?_); (try (refine gate_guard (by rfl) ?_; dsimp only)); refine box_event ?hg (N := 4) ?hd (cs := #[.int .u8 0, .int .u64 0, .int .i64 0, .string (⟨#[]⟩ : ByteArray), .int .u64 0]) (t := 31) ?hr ?_; (case hd => rfl); (case hg => rfl); (case hr => first | (go_simp; done) | (go_simp; rfl)); intro gb4 hg4 w4 hbox hb; have BK4 := Aside0.mk hbox; have B4 := Aside0.mk hb; have GE4 := Aside0.mk (Nat.le_of_eq hg4.symm : w3.heap.size ≤ gb4); have n3_ := Aside0.mk (blk_below BK3.out hb); clear BK3; have BK3 := n3_; clear n3_; have hc3 : w4.cell? ⟨gb3, 0, none⟩ = some (.int .u8 k) := blk_cell BK3.out 0; clear hbox hb hg4) | ((with_reducible refine gate_dst (N := 5) rfl ?_); (try (refine gate_guard (by rfl) ?_; dsimp only)); refine box_event ?hg (N := 5) ?hd (cs := #[.int .u8 0, .int .u64 0, .int .i64 0, .string (⟨#[]⟩ : ByteArray), .int .u64 0]) (t := 31) ?hr ?_; (case hd => rfl); (case hg => rfl); (case hr => first | (go_simp; done) | (go_simp; rfl)); intro gb5 hg5 w5 hbox hb; have BK5 := Aside0.mk hbox; have B5 := Aside0.mk hb; have GE5 := Aside0.mk (Nat.le_of_eq hg5.symm : w4.heap.size ≤ gb5); have BK3w4 := BK3; have n3_ := Aside0.mk (blk_below BK3.out hb); clear BK3; have BK3 := n3_; clear n3_; have BK4w4 := BK4; have n4_ := Aside0.mk (blk_below BK4.out hb); clear BK4; have BK4 := n4_; clear n4_; clear hc3; have hc3_0 : w5.cell? ⟨gb3, 0, none⟩ = some (.int .u8 k) := blk_cell BK3.out 0; have hc3_1 : w5.cell? ⟨gb3, 1, none⟩ = some (.int .u64 u) := blk_cell BK3.out 1; have hc3_2 : w5.cell? ⟨gb3, 2, none⟩ = some (.int .i64 i) := blk_cell BK3.out 2; have hc3_3 : w5.cell? ⟨gb3, 3, none⟩ = some (.string s) := blk_cell BK3.out 3; have hc3_4 : w5.cell? ⟨gb3, 4, none⟩ = some (.int .u64 m) := blk_cell BK3.out 4; have hf5_0 := blk_frozen hbox 0; have hc5_0 : w5.cell? ⟨gb5, 0, none⟩ = some (.int .u8 0) := blk_cell hbox 0; have hf5_1 := blk_frozen hbox 1; have hc5_1 : w5.cell? ⟨gb5, 1, none⟩ = some (.int .u64 0) := blk_cell hbox 1; have hf5_2 := blk_frozen hbox 2; have hc5_2 : w5.cell? ⟨gb5, 2, none⟩ = some (.int .i64 0) := blk_cell hbox 2; have hf5_3 := blk_frozen hbox 3; have hc5_3 : w5.cell? ⟨gb5, 3, none⟩ = some (.string (⟨#[]⟩ : ByteArray)) := blk_cell hbox 3; have hf5_4 := blk_frozen hbox 4; have hc5_4 : w5.cell? ⟨gb5, 4, none⟩ = some (.int .u64 0) := blk_cell hbox 4; have nb35 : gb3 ≠ gb5 := (by have h5 := GE5.out; have h3 := blk_lt BK3w4.out; omega); have nb53 := Ne.symm nb35; clear hbox hb hg5))
    obtain ⟨W, hW⟩ : ∃ W, W = (((((w5.setCell ⟨gb5, 0, none⟩ (.int .u8 k)).setCell ⟨gb5, 1, none⟩ (.int .u64 0)).setCell ⟨gb5, 2, none⟩ (.int .i64 0)).setCell ⟨gb5, 3, none⟩ (.string (⟨#[]⟩ : ByteArray))).setCell ⟨gb5, 4, none⟩ (.int .u64 0)) := ⟨_, rfl⟩
    rw [← hW]
    have n3_ := Aside0.mk (show W.heap[gb3]? = some (.cells #[.int .u8 k, .int .u64 u, .int .i64 i, .string s, .int .u64 m] 31 (0, 0)) by rw [hW]; exact blk_far (blk_far (blk_far (blk_far (blk_far BK3.out nb35 _) nb35 _) nb35 _) nb35 _) nb35 _)
    have nb45 : gb4 ≠ gb5 := by have h5 := GE5.out; have h4 := blk_lt BK4w4.out; omega
    have n4_ := Aside0.mk (show W.heap[gb4]? = some (.cells #[.int .u8 0, .int .u64 0, .int .i64 0, .string (⟨#[]⟩ : ByteArray), .int .u64 0] 31 (0, 0)) by rw [hW]; exact blk_far (blk_far (blk_far (blk_far (blk_far BK4.out nb45 _) nb45 _) nb45 _) nb45 _) nb45 _)
    have n5_ := Aside0.mk (show W.heap[gb5]? = some (.cells #[.int .u8 k, .int .u64 0, .int .i64 0, .string (⟨#[]⟩ : ByteArray), .int .u64 0] 31 (0, 0)) by rw [hW]; exact blk_put (blk_put (blk_put (blk_put (blk_put BK5.out 0 _ rfl) 1 _ rfl) 2 _ rfl) 3 _ rfl) 4 _ rfl)
    have GB4 := Aside0.mk (show w.heap.size ≤ gb4 by have := GE4.out; have := B3.out.size; omega)
    have GB5 := Aside0.mk (show w.heap.size ≤ gb5 by have := GE5.out; have := B3.out.size; have := B4.out.size; omega)
    have HLW := Aside0.mk (show LDone N w g st W by rw [hW]; have h0 : LDone N w g st w5 := ⟨((HL.out.below B3.out).below B4.out).below B5.out, (((KeepQ.refl w g none).below B3.out).below B4.out).below B5.out⟩; have t0 : Ty w5 gb5 31 := Ty.of BK5.out; exact ((((h0.far t0 (by decide) GB5.out hg 0 _).far (t0.set _ _ _) (by decide) GB5.out hg 1 _).far ((t0.set _ _ _).set _ _ _) (by decide) GB5.out hg 2 _).far (((t0.set _ _ _).set _ _ _).set _ _ _) (by decide) GB5.out hg 3 _).far ((((t0.set _ _ _).set _ _ _).set _ _ _).set _ _ _) (by decide) GB5.out hg 4 _)
    clear BK3 BK4 BK5 BK3w4 BK4w4 hc3_0 hf5_0 hc5_0 hc3_1 hf5_1 hc5_1 hc3_2 hf5_2 hc5_2 hc3_3 hf5_3 hc5_3 hc3_4 hf5_4 hc5_4
    have BK3 := n3_
    have BK4 := n4_
    have BK5 := n5_
    clear n3_ n4_ n5_ hW
    have hc3_0 : W.cell? ⟨gb3, 0, none⟩ = some (.int .u8 k) := blk_cell BK3.out 0
    have hc3_4 : W.cell? ⟨gb3, 4, none⟩ = some (.int .u64 m) := blk_cell BK3.out 4
    have HLE := Aside0.mk HLW.out.1
    have hcall := (lens_Text N g st (m % 1000) (by omega) (by omega) W HLE.out)
    rw [HU.out] at hcall
    have HCALL := Aside0.mk hcall
    clear hcall
    go_wp2_with (first | (go_at_call 23; refine (HCALL.out).mono ?_; rintro e w6 ⟨rfl, hd⟩; have HD := Aside0.mk hd; have n3_ := Aside0.mk (hd.blk BK3.out (by have := GB4.out; have := blk_lt BK3.out; have := GE3.out; omega)); have n4_ := Aside0.mk (hd.blk BK4.out (by have := GB4.out; omega)); have n5_ := Aside0.mk (hd.blk BK5.out (by have := GB5.out; omega)); clear hd hc3_0 hc3_4 BK3 BK4 BK5; have BK3 := n3_; have BK4 := n4_; have BK5 := n5_; clear n3_ n4_ n5_; have hc5_0 : w6.cell? ⟨gb5, 0, none⟩ = some (.int .u8 k) := blk_cell BK5.out 0; have hf5_0 := blk_frozen BK5.out 0; have hc4_0 : w6.cell? ⟨gb4, 0, none⟩ = some (.int .u8 0) := blk_cell BK4.out 0; have hf4_0 := blk_frozen BK4.out 0; have hc5_1 : w6.cell? ⟨gb5, 1, none⟩ = some (.int .u64 0) := blk_cell BK5.out 1; have hf5_1 := blk_frozen BK5.out 1; have hc4_1 : w6.cell? ⟨gb4, 1, none⟩ = some (.int .u64 0) := blk_cell BK4.out 1; have hf4_1 := blk_frozen BK4.out 1; have hc5_2 : w6.cell? ⟨gb5, 2, none⟩ = some (.int .i64 0) := blk_cell BK5.out 2; have hf5_2 := blk_frozen BK5.out 2; have hc4_2 : w6.cell? ⟨gb4, 2, none⟩ = some (.int .i64 0) := blk_cell BK4.out 2; have hf4_2 := blk_frozen BK4.out 2; have hc5_3 : w6.cell? ⟨gb5, 3, none⟩ = some (.string (⟨#[]⟩ : ByteArray)) := blk_cell BK5.out 3; have hf5_3 := blk_frozen BK5.out 3; have hc4_3 : w6.cell? ⟨gb4, 3, none⟩ = some (.string (⟨#[]⟩ : ByteArray)) := blk_cell BK4.out 3; have hf4_3 := blk_frozen BK4.out 3; have hc5_4 : w6.cell? ⟨gb5, 4, none⟩ = some (.int .u64 0) := blk_cell BK5.out 4; have hf5_4 := blk_frozen BK5.out 4; have hc4_4 : w6.cell? ⟨gb4, 4, none⟩ = some (.int .u64 0) := blk_cell BK4.out 4; have hf4_4 := blk_frozen BK4.out 4; have nb54 := Ne.symm nb45))
    refine bodyPost_ret (results_cell_row (p := 4) (ty := 31) rfl _ _ gb4 31 #[.int .u8 k, .int .u64 0, .int .i64 0, .string U.1, .int .u64 0] (0, 0) _ rfl ?hgr Tryd.underlying31 rfl (by kernel_rfl)) rfl ⟨rfl, ?_⟩
    case hgr => exact (blk_put (blk_put (blk_put (blk_put (blk_put (blk_far BK4.out nb45 _) 0 _ rfl) 1 _ rfl) 2 _ rfl) 3 _ rfl) 4 _ rfl)
    have h0 : LDone N w g _ w6 := HLW.out.trans HD.out
    have t5 : Ty w6 gb5 31 := Ty.of BK5.out
    have t4 : Ty w6 gb4 31 := Ty.of BK4.out
    have h1 := h0.far t5 (by decide) GB5.out hg 3 (.string U.1)
    have t41 := t4.set gb5 3 (.string U.1)
    exact ((((h1.far t41 (by decide) GB4.out hg 0 _).far (t41.set _ _ _) (by decide) GB4.out hg 1 _).far ((t41.set _ _ _).set _ _ _) (by decide) GB4.out hg 2 _).far (((t41.set _ _ _).set _ _ _).set _ _ _) (by decide) GB4.out hg 3 _).far ((((t41.set _ _ _).set _ _ _).set _ _ _).set _ _ _) (by decide) GB4.out hg 4 _

end Go.Proofs.YtdojgjbiilnjpaaDoor.M
