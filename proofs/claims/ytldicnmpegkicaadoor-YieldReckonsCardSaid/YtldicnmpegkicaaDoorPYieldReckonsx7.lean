-- Printed by a wrapper of this session's round the kit's print.py; Lean checks it.
import Derived.Test.YtldicnmpegkicaaDoorPYieldReckonsx0
import Derived.Test.YtldicnmpegkicaaDoorPYieldReckonsx4
import Derived.Test.YtldicnmpegkicaaDoorPYieldReckonsx5
import Derived.Test.YtldicnmpegkicaaDoorPYieldReckonsx6
namespace Go.Proofs.YtldicnmpegkicaaDoor.PYieldReckons
open Go.RowKit Go.Proofs.YtldicnmpegkicaaDoorW.PrintWords Go.Proofs.YtldicnmpegkicaaDoorW.PrintLast Go.Proofs.YtldicnmpegkicaaDoorW.PrintMore
attribute [local go_sem] max2_int min2_int max_two min_two max_three min_three max_four min_four   -- for this text's walks alone
set_option linter.unusedVariables false
set_option linter.unusedSimpArgs false

/-! ### arrearsref09_Days: function 13 -/
def arrearsref09_Days.f (a0_0 : Int) (a0_1 : Bool) (a1 : Int) (a2 : Int) (a3 : Int) : Option (Int × Int) := (arrearsref03_Mul.f (IntKind.u64.wrap (a1)) (IntKind.u64.wrap ((IntKind.u64.wrap (a0_0)) * (IntKind.u64.wrap (a2))))).bind fun bt156 => ((arrearsref03_Of.f 0 a3).bind fun bt164 => ((arrearsref03_Add.f bt156.1 bt156.2.1 bt156.2.2.1 bt156.2.2.2.1 bt156.2.2.2.2.1 bt156.2.2.2.2.2.1 bt156.2.2.2.2.2.2.1 bt156.2.2.2.2.2.2.2 bt164.1 bt164.2.1 bt164.2.2.1 bt164.2.2.2.1 bt164.2.2.2.2.1 bt164.2.2.2.2.2.1 bt164.2.2.2.2.2.2.1 bt164.2.2.2.2.2.2.2).bind fun bt172 => ((arrearsref09_Unit.f a0_0 a0_1).bind fun t182 => ((arrearsref03_Div.f bt172.1 bt172.2.1 bt172.2.2.1 bt172.2.2.2.1 bt172.2.2.2.2.1 bt172.2.2.2.2.2.1 bt172.2.2.2.2.2.2.1 bt172.2.2.2.2.2.2.2.1 t182).bind fun bt183 => ((arrearsref03_Word.f bt183.1 bt183.2.1 bt183.2.2.1 bt183.2.2.2.1 bt183.2.2.2.2.1 bt183.2.2.2.2.2.1 bt183.2.2.2.2.2.2.1 bt183.2.2.2.2.2.2.2.1 false).bind fun t193 => (some (wrap64 (t193), bt183.2.2.2.2.2.2.2.2)))))))
def arrearsref09_Days.T2 : Bool × List (List Nat × List Nat) := (true, [([], []), ([], []), ([1], [1]), ([0, 2, 2], [0, 2]), ([3], [3]), ([4], [4]), ([4], [4]), ([], []), ([7, 5, 3, 0, 1, 2, 3, 4, 5, 7], [5, 7]), ([6, 8, 0, 1, 2, 3, 4, 5, 6, 7, 8], [6])])
def arrearsref09_Days.B2 : List Nat := [0, 0, 2, 7, 15, 31, 31, 0, 191, 511]
theorem arrearsref09_Days.tab2 : rtab .any (opsOf Tryd.f13 2) = arrearsref09_Days.T2 := by kernel_rfl
theorem arrearsref09_Days.bits2 : waitsOk arrearsref09_Days.T2.2 arrearsref09_Days.B2 = true := by kernel_rfl
set_option maxHeartbeats 8000000 in
set_option maxRecDepth 100000 in
theorem arrearsref09_Days.calls (a0_0 : Int) (a0_1 : Bool) (a1 : Int) (a2 : Int) (a3 : Int) (r1 : Int) (r2 : Int) (w : World) (h : arrearsref09_Days.f a0_0 a0_1 a1 a2 a3 = some (r1, r2)) :
    Calls Tryd.prog 13 #[.agg #[.int .u32 a0_0, .bool a0_1], .int .i64 a1, .int .i64 a2, .int .u64 a3] w fun e w' => e = .returned (.tuple #[.int .i64 r1, .int .u64 r2]) ∧ Below w.heap.size w w' := by
  have hu34 := Tryd.underlying34
  have hu61 := Tryd.underlying61
  have HB := Aside0.mk (Below.refl w.heap.size w)
  have H : ((arrearsref03_Mul.f (IntKind.u64.wrap (a1)) (IntKind.u64.wrap ((IntKind.u64.wrap (a0_0)) * (IntKind.u64.wrap (a2))))).bind fun bt156 => ((arrearsref03_Of.f 0 a3).bind fun bt164 => ((arrearsref03_Add.f bt156.1 bt156.2.1 bt156.2.2.1 bt156.2.2.2.1 bt156.2.2.2.2.1 bt156.2.2.2.2.2.1 bt156.2.2.2.2.2.2.1 bt156.2.2.2.2.2.2.2 bt164.1 bt164.2.1 bt164.2.2.1 bt164.2.2.2.1 bt164.2.2.2.2.1 bt164.2.2.2.2.2.1 bt164.2.2.2.2.2.2.1 bt164.2.2.2.2.2.2.2).bind fun bt172 => ((arrearsref09_Unit.f a0_0 a0_1).bind fun t182 => ((arrearsref03_Div.f bt172.1 bt172.2.1 bt172.2.2.1 bt172.2.2.2.1 bt172.2.2.2.2.1 bt172.2.2.2.2.2.1 bt172.2.2.2.2.2.2.1 bt172.2.2.2.2.2.2.2.1 t182).bind fun bt183 => ((arrearsref03_Word.f bt183.1 bt183.2.1 bt183.2.2.1 bt183.2.2.2.1 bt183.2.2.2.2.1 bt183.2.2.2.2.2.1 bt183.2.2.2.2.2.2.1 bt183.2.2.2.2.2.2.2.1 false).bind fun t193 => (some (wrap64 (t193), bt183.2.2.2.2.2.2.2.2)))))))) = some (r1, r2) := h
  clear h
  replace H := Option.bind_eq_some_iff.mp H
  obtain ⟨⟨t156, t157, t158, t159, t160, t161, t162, t163⟩, A50, H⟩ := H
  replace H : ((arrearsref03_Of.f 0 a3).bind fun bt164 => ((arrearsref03_Add.f t156 t157 t158 t159 t160 t161 t162 t163 bt164.1 bt164.2.1 bt164.2.2.1 bt164.2.2.2.1 bt164.2.2.2.2.1 bt164.2.2.2.2.2.1 bt164.2.2.2.2.2.2.1 bt164.2.2.2.2.2.2.2).bind fun bt172 => ((arrearsref09_Unit.f a0_0 a0_1).bind fun t182 => ((arrearsref03_Div.f bt172.1 bt172.2.1 bt172.2.2.1 bt172.2.2.2.1 bt172.2.2.2.2.1 bt172.2.2.2.2.2.1 bt172.2.2.2.2.2.2.1 bt172.2.2.2.2.2.2.2.1 t182).bind fun bt183 => ((arrearsref03_Word.f bt183.1 bt183.2.1 bt183.2.2.1 bt183.2.2.2.1 bt183.2.2.2.2.1 bt183.2.2.2.2.2.1 bt183.2.2.2.2.2.2.1 bt183.2.2.2.2.2.2.2.1 false).bind fun t193 => (some (wrap64 (t193), bt183.2.2.2.2.2.2.2.2))))))) = some (r1, r2) := H
  have A5 := Aside0.mk A50
  clear A50
  replace H := Option.bind_eq_some_iff.mp H
  obtain ⟨⟨t164, t165, t166, t167, t168, t169, t170, t171⟩, A60, H⟩ := H
  replace H : ((arrearsref03_Add.f t156 t157 t158 t159 t160 t161 t162 t163 t164 t165 t166 t167 t168 t169 t170 t171).bind fun bt172 => ((arrearsref09_Unit.f a0_0 a0_1).bind fun t182 => ((arrearsref03_Div.f bt172.1 bt172.2.1 bt172.2.2.1 bt172.2.2.2.1 bt172.2.2.2.2.1 bt172.2.2.2.2.2.1 bt172.2.2.2.2.2.2.1 bt172.2.2.2.2.2.2.2.1 t182).bind fun bt183 => ((arrearsref03_Word.f bt183.1 bt183.2.1 bt183.2.2.1 bt183.2.2.2.1 bt183.2.2.2.2.1 bt183.2.2.2.2.2.1 bt183.2.2.2.2.2.2.1 bt183.2.2.2.2.2.2.2.1 false).bind fun t193 => (some (wrap64 (t193), bt183.2.2.2.2.2.2.2.2)))))) = some (r1, r2) := H
  have A6 := Aside0.mk A60
  clear A60
  replace H := Option.bind_eq_some_iff.mp H
  obtain ⟨⟨t172, t173, t174, t175, t176, t177, t178, t179, t180⟩, A70, H⟩ := H
  replace H : ((arrearsref09_Unit.f a0_0 a0_1).bind fun t182 => ((arrearsref03_Div.f t172 t173 t174 t175 t176 t177 t178 t179 t182).bind fun bt183 => ((arrearsref03_Word.f bt183.1 bt183.2.1 bt183.2.2.1 bt183.2.2.2.1 bt183.2.2.2.2.1 bt183.2.2.2.2.2.1 bt183.2.2.2.2.2.2.1 bt183.2.2.2.2.2.2.2.1 false).bind fun t193 => (some (wrap64 (t193), bt183.2.2.2.2.2.2.2.2))))) = some (r1, r2) := H
  have A7 := Aside0.mk A70
  clear A70
  replace H := Option.bind_eq_some_iff.mp H
  obtain ⟨t182, A80, H⟩ := H
  replace H : ((arrearsref03_Div.f t172 t173 t174 t175 t176 t177 t178 t179 t182).bind fun bt183 => ((arrearsref03_Word.f bt183.1 bt183.2.1 bt183.2.2.1 bt183.2.2.2.1 bt183.2.2.2.2.1 bt183.2.2.2.2.2.1 bt183.2.2.2.2.2.2.1 bt183.2.2.2.2.2.2.2.1 false).bind fun t193 => (some (wrap64 (t193), bt183.2.2.2.2.2.2.2.2)))) = some (r1, r2) := H
  have A8 := Aside0.mk A80
  clear A80
  replace H := Option.bind_eq_some_iff.mp H
  obtain ⟨⟨t183, t184, t185, t186, t187, t188, t189, t190, t191⟩, A90, H⟩ := H
  replace H : ((arrearsref03_Word.f t183 t184 t185 t186 t187 t188 t189 t190 false).bind fun t193 => (some (wrap64 (t193), t191))) = some (r1, r2) := H
  have A9 := Aside0.mk A90
  clear A90
  replace H := Option.bind_eq_some_iff.mp H
  obtain ⟨t193, A100, H⟩ := H
  replace H : (some (wrap64 (t193), t191)) = some (r1, r2) := H
  have A10 := Aside0.mk A100
  clear A100
  simp only [Option.some.injEq, Prod.mk.injEq] at H
  obtain ⟨rfl, rfl⟩ := H
  go_enter Tryd.func13, Tryd.ntmps13
  try go_wp2_with (first | ((with_reducible refine gate_dst (N := 4) rfl ?_); refine box_event ?hg (N := 4) ?hd (cs := #[.int .u32 a0_0, .bool a0_1]) (t := 34) ?hr ?_; (case hd => rfl); (case hg => rfl); (case hr => first | (go_simp; done) | (go_simp; rfl)); intro gb155 hg w11 hbox hb; have n0_ := Aside0.mk (below_step (by repeat (first | (with_reducible first | exact HB.out | apply below_alloc | apply pw_below_drewN | apply below_drew1) | exact HB.out)) hb); have n1_ := Aside0.mk (hbox); have n2_ := Aside0.mk ((by rw [hg]; exact (below_size (by repeat (first | (with_reducible first | exact HB.out | apply below_alloc | apply pw_below_drewN | apply below_drew1) | exact HB.out))) : w.heap.size ≤ gb155)); have n3_ := Aside0.mk ((by rw [hg]; exact (below_size (by repeat (first | (with_reducible first | exact HB.out | apply below_alloc | apply pw_below_drewN | apply below_drew1) | exact HB.out))) : w.heap.size ≤ gb155)); clear HB; have HB := n0_; have BK155 := n1_; have GW155 := n2_; have GE155 := n3_; clear n0_ n1_ n2_ n3_; clear hb hbox hg; have hcz12_0 : w11.cell? ⟨gb155, 0, none⟩ = some (.int .u32 a0_0) := (blk_cell BK155.out 0).trans rfl; have hcz12_1 : w11.cell? ⟨gb155, 1, none⟩ = some (.bool a0_1) := (blk_cell BK155.out 1).trans rfl; have hfz12_0 := blk_frozen BK155.out 0; have hfz12_1 := blk_frozen BK155.out 1) | ((with_reducible refine gate_callee (f := 26) rfl ?_); refine goesL_ (some 23) rfl rfl Tryd.func26 (by kernel_rfl) rfl #[.int .u64 (IntKind.u64.wrap (a1)), .int .u64 (IntKind.u64.wrap ((IntKind.u64.wrap (a0_0)) * (IntKind.u64.wrap (a2))))] rfl (by (try simp only [List.map_toArray, List.map_cons, List.map_nil]); first | done | rfl | (simp only [List.length_drop, List.length_take]; rfl)) ?_; (with_reducible refine (arrearsref03_Mul.calls (IntKind.u64.wrap (a1)) (IntKind.u64.wrap ((IntKind.u64.wrap (a0_0)) * (IntKind.u64.wrap (a2)))) t156 t157 t158 t159 t160 t161 t162 t163 _ A5.out).mono ?_); rintro e w13 ⟨rfl, hb⟩; refine ⟨_, rfl, ?_⟩; have n0_ := Aside0.mk (blk_below (g := gb155) (o := .cells #[.int .u32 a0_0, .bool a0_1] 34 (0, 0)) (by (with_reducible repeat (first | refine blk_drewN ?_ _ | refine blk_drew ?_ | refine blk_alloc ?_ _)); exact BK155.out) hb); have n1_ := Aside0.mk (below_step (by repeat (first | (with_reducible first | exact HB.out | apply below_alloc | apply pw_below_drewN | apply below_drew1 | refine below_set ?_ GE155.out) | exact HB.out)) hb); clear BK155; clear HB; have BK155 := n0_; have HB := n1_; clear n0_ n1_; (try clear hb); (try clear hb2); (try clear hk); (try clear hi)) | ((with_reducible refine gate_callee (f := 27) rfl ?_); refine goesL_ (some 25) rfl rfl Tryd.func27 (by kernel_rfl) rfl #[.int .u64 0, .int .u64 a3] rfl (by (try simp only [List.map_toArray, List.map_cons, List.map_nil]); first | done | rfl | (simp only [List.length_drop, List.length_take]; rfl)) ?_; (with_reducible refine (arrearsref03_Of.calls 0 a3 t164 t165 t166 t167 t168 t169 t170 t171 _ A6.out).mono ?_); rintro e w14 ⟨rfl, hb⟩; refine ⟨_, rfl, ?_⟩; have n0_ := Aside0.mk (blk_below (g := gb155) (o := .cells #[.int .u32 a0_0, .bool a0_1] 34 (0, 0)) (by (with_reducible repeat (first | refine blk_drewN ?_ _ | refine blk_drew ?_ | refine blk_alloc ?_ _)); exact BK155.out) hb); have n1_ := Aside0.mk (below_step (by repeat (first | (with_reducible first | exact HB.out | apply below_alloc | apply pw_below_drewN | apply below_drew1 | refine below_set ?_ GE155.out) | exact HB.out)) hb); clear BK155; clear HB; have BK155 := n0_; have HB := n1_; clear n0_ n1_; (try clear hb); (try clear hb2); (try clear hk); (try clear hi)) | ((with_reducible refine gate_callee (f := 25) rfl ?_); refine goesL_ (some 26) rfl rfl Tryd.func25 (by kernel_rfl) rfl #[.agg #[.int .u32 t156, .int .u32 t157, .int .u32 t158, .int .u32 t159, .int .u32 t160, .int .u32 t161, .int .u32 t162, .int .u32 t163], .agg #[.int .u32 t164, .int .u32 t165, .int .u32 t166, .int .u32 t167, .int .u32 t168, .int .u32 t169, .int .u32 t170, .int .u32 t171]] rfl (by (try simp only [List.map_toArray, List.map_cons, List.map_nil]); first | done | rfl | (simp only [List.length_drop, List.length_take]; rfl)) ?_; (with_reducible refine (arrearsref03_Add.calls t156 t157 t158 t159 t160 t161 t162 t163 t164 t165 t166 t167 t168 t169 t170 t171 t172 t173 t174 t175 t176 t177 t178 t179 t180 _ A7.out).mono ?_); rintro e w15 ⟨rfl, hb⟩; refine ⟨_, rfl, ?_⟩; have n0_ := Aside0.mk (blk_below (g := gb155) (o := .cells #[.int .u32 a0_0, .bool a0_1] 34 (0, 0)) (by (with_reducible repeat (first | refine blk_drewN ?_ _ | refine blk_drew ?_ | refine blk_alloc ?_ _)); exact BK155.out) hb); have n1_ := Aside0.mk (below_step (by repeat (first | (with_reducible first | exact HB.out | apply below_alloc | apply pw_below_drewN | apply below_drew1 | refine below_set ?_ GE155.out) | exact HB.out)) hb); clear BK155; clear HB; have BK155 := n0_; have HB := n1_; clear n0_ n1_; (try clear hb); (try clear hb2); (try clear hk); (try clear hi)) | ((with_reducible refine gate_dst (N := 10) rfl ?_); refine box_event ?hg (N := 10) ?hd (cs := #[.int .u32 0, .int .u32 0, .int .u32 0, .int .u32 0, .int .u32 0, .int .u32 0, .int .u32 0, .int .u32 0]) (t := 61) ?hr ?_; (case hd => rfl); (case hg => rfl); (case hr => first | (go_simp; done) | (go_simp; rfl)); intro gb181 hg w16 hbox hb; have n0_ := Aside0.mk (blk_below (g := gb155) (o := .cells #[.int .u32 a0_0, .bool a0_1] 34 (0, 0)) (by (with_reducible repeat (first | refine blk_drewN ?_ _ | refine blk_drew ?_ | refine blk_alloc ?_ _)); exact BK155.out) hb); have n1_ := Aside0.mk (below_step (by repeat (first | (with_reducible first | exact HB.out | apply below_alloc | apply pw_below_drewN | apply below_drew1 | refine below_set ?_ GE155.out) | exact HB.out)) hb); have n2_ := Aside0.mk (hbox); have n3_ := Aside0.mk ((by rw [hg]; exact (below_size (by repeat (first | (with_reducible first | exact HB.out | apply below_alloc | apply pw_below_drewN | apply below_drew1 | refine below_set ?_ GE155.out) | exact HB.out))) : w.heap.size ≤ gb181)); have n4_ := Aside0.mk ((by rw [hg]; exact (below_size (by repeat (first | (with_reducible first | exact HB.out | apply below_alloc | apply pw_below_drewN | apply below_drew1 | refine below_set ?_ GE155.out) | exact HB.out))) : w.heap.size ≤ gb181)); have n5_ := Aside0.mk ((by rw [hg]; exact Nat.ne_of_lt (blk_lt (g := gb155) (o := .cells #[.int .u32 a0_0, .bool a0_1] 34 (0, 0)) (by (with_reducible repeat (first | refine blk_drewN ?_ _ | refine blk_drew ?_ | refine blk_alloc ?_ _)); exact BK155.out)) : gb155 ≠ gb181)); have n6_ := Aside0.mk ((by rw [hg]; exact Nat.ne_of_gt (blk_lt (g := gb155) (o := .cells #[.int .u32 a0_0, .bool a0_1] 34 (0, 0)) (by (with_reducible repeat (first | refine blk_drewN ?_ _ | refine blk_drew ?_ | refine blk_alloc ?_ _)); exact BK155.out)) : gb181 ≠ gb155)); clear BK155; clear HB; have BK155 := n0_; have HB := n1_; have BK181 := n2_; have GW181 := n3_; have GE181 := n4_; have NB155_181 := n5_; have NB181_155 := n6_; clear n0_ n1_ n2_ n3_ n4_ n5_ n6_; clear hb hbox hg; have hnb17 := NB181_155.out; have hnc17 := NB155_181.out; have hcz18_0 : w16.cell? ⟨gb181, 0, none⟩ = some (.int .u32 0) := (blk_cell BK181.out 0).trans rfl; have hcz18_1 : w16.cell? ⟨gb181, 1, none⟩ = some (.int .u32 0) := (blk_cell BK181.out 1).trans rfl; have hcz18_2 : w16.cell? ⟨gb181, 2, none⟩ = some (.int .u32 0) := (blk_cell BK181.out 2).trans rfl; have hcz18_3 : w16.cell? ⟨gb181, 3, none⟩ = some (.int .u32 0) := (blk_cell BK181.out 3).trans rfl; have hcz18_4 : w16.cell? ⟨gb181, 4, none⟩ = some (.int .u32 0) := (blk_cell BK181.out 4).trans rfl; have hcz18_5 : w16.cell? ⟨gb181, 5, none⟩ = some (.int .u32 0) := (blk_cell BK181.out 5).trans rfl; have hcz18_6 : w16.cell? ⟨gb181, 6, none⟩ = some (.int .u32 0) := (blk_cell BK181.out 6).trans rfl; have hcz18_7 : w16.cell? ⟨gb181, 7, none⟩ = some (.int .u32 0) := (blk_cell BK181.out 7).trans rfl; have hfz18_0 := blk_frozen BK181.out 0; have hfz18_1 := blk_frozen BK181.out 1; have hfz18_2 := blk_frozen BK181.out 2; have hfz18_3 := blk_frozen BK181.out 3; have hfz18_4 := blk_frozen BK181.out 4; have hfz18_5 := blk_frozen BK181.out 5; have hfz18_6 := blk_frozen BK181.out 6; have hfz18_7 := blk_frozen BK181.out 7))
  have n0_ : Aside0 (((((((((w16.setCell ⟨gb181, 0, none⟩ (.int .u32 t172)).setCell ⟨gb181, 1, none⟩ (.int .u32 t173)).setCell ⟨gb181, 2, none⟩ (.int .u32 t174)).setCell ⟨gb181, 3, none⟩ (.int .u32 t175)).setCell ⟨gb181, 4, none⟩ (.int .u32 t176)).setCell ⟨gb181, 5, none⟩ (.int .u32 t177)).setCell ⟨gb181, 6, none⟩ (.int .u32 t178)).setCell ⟨gb181, 7, none⟩ (.int .u32 t179)).heap[gb155]? = some (.cells #[.int .u32 a0_0, .bool a0_1] 34 (0, 0))) := ⟨by (with_reducible repeat (first | refine blk_drewN ?_ _ | refine blk_drew ?_ | refine blk_alloc ?_ _)); refine blk_far ?_ NB155_181.out _; (with_reducible repeat (first | refine blk_drewN ?_ _ | refine blk_drew ?_ | refine blk_alloc ?_ _)); refine blk_far ?_ NB155_181.out _; (with_reducible repeat (first | refine blk_drewN ?_ _ | refine blk_drew ?_ | refine blk_alloc ?_ _)); refine blk_far ?_ NB155_181.out _; (with_reducible repeat (first | refine blk_drewN ?_ _ | refine blk_drew ?_ | refine blk_alloc ?_ _)); refine blk_far ?_ NB155_181.out _; (with_reducible repeat (first | refine blk_drewN ?_ _ | refine blk_drew ?_ | refine blk_alloc ?_ _)); refine blk_far ?_ NB155_181.out _; (with_reducible repeat (first | refine blk_drewN ?_ _ | refine blk_drew ?_ | refine blk_alloc ?_ _)); refine blk_far ?_ NB155_181.out _; (with_reducible repeat (first | refine blk_drewN ?_ _ | refine blk_drew ?_ | refine blk_alloc ?_ _)); refine blk_far ?_ NB155_181.out _; (with_reducible repeat (first | refine blk_drewN ?_ _ | refine blk_drew ?_ | refine blk_alloc ?_ _)); refine blk_far ?_ NB155_181.out _; (with_reducible repeat (first | refine blk_drewN ?_ _ | refine blk_drew ?_ | refine blk_alloc ?_ _)); exact BK155.out⟩
  have n1_ : Aside0 (((((((((w16.setCell ⟨gb181, 0, none⟩ (.int .u32 t172)).setCell ⟨gb181, 1, none⟩ (.int .u32 t173)).setCell ⟨gb181, 2, none⟩ (.int .u32 t174)).setCell ⟨gb181, 3, none⟩ (.int .u32 t175)).setCell ⟨gb181, 4, none⟩ (.int .u32 t176)).setCell ⟨gb181, 5, none⟩ (.int .u32 t177)).setCell ⟨gb181, 6, none⟩ (.int .u32 t178)).setCell ⟨gb181, 7, none⟩ (.int .u32 t179)).heap[gb181]? = some (.cells #[.int .u32 t172, .int .u32 t173, .int .u32 t174, .int .u32 t175, .int .u32 t176, .int .u32 t177, .int .u32 t178, .int .u32 t179] 61 (0, 0))) := ⟨by (with_reducible repeat (first | refine blk_drewN ?_ _ | refine blk_drew ?_ | refine blk_alloc ?_ _)); refine blk_put (cs := #[.int .u32 t172, .int .u32 t173, .int .u32 t174, .int .u32 t175, .int .u32 t176, .int .u32 t177, .int .u32 t178, .int .u32 0]) ?_ 7 _ rfl; (with_reducible repeat (first | refine blk_drewN ?_ _ | refine blk_drew ?_ | refine blk_alloc ?_ _)); refine blk_put (cs := #[.int .u32 t172, .int .u32 t173, .int .u32 t174, .int .u32 t175, .int .u32 t176, .int .u32 t177, .int .u32 0, .int .u32 0]) ?_ 6 _ rfl; (with_reducible repeat (first | refine blk_drewN ?_ _ | refine blk_drew ?_ | refine blk_alloc ?_ _)); refine blk_put (cs := #[.int .u32 t172, .int .u32 t173, .int .u32 t174, .int .u32 t175, .int .u32 t176, .int .u32 0, .int .u32 0, .int .u32 0]) ?_ 5 _ rfl; (with_reducible repeat (first | refine blk_drewN ?_ _ | refine blk_drew ?_ | refine blk_alloc ?_ _)); refine blk_put (cs := #[.int .u32 t172, .int .u32 t173, .int .u32 t174, .int .u32 t175, .int .u32 0, .int .u32 0, .int .u32 0, .int .u32 0]) ?_ 4 _ rfl; (with_reducible repeat (first | refine blk_drewN ?_ _ | refine blk_drew ?_ | refine blk_alloc ?_ _)); refine blk_put (cs := #[.int .u32 t172, .int .u32 t173, .int .u32 t174, .int .u32 0, .int .u32 0, .int .u32 0, .int .u32 0, .int .u32 0]) ?_ 3 _ rfl; (with_reducible repeat (first | refine blk_drewN ?_ _ | refine blk_drew ?_ | refine blk_alloc ?_ _)); refine blk_put (cs := #[.int .u32 t172, .int .u32 t173, .int .u32 0, .int .u32 0, .int .u32 0, .int .u32 0, .int .u32 0, .int .u32 0]) ?_ 2 _ rfl; (with_reducible repeat (first | refine blk_drewN ?_ _ | refine blk_drew ?_ | refine blk_alloc ?_ _)); refine blk_put (cs := #[.int .u32 t172, .int .u32 0, .int .u32 0, .int .u32 0, .int .u32 0, .int .u32 0, .int .u32 0, .int .u32 0]) ?_ 1 _ rfl; (with_reducible repeat (first | refine blk_drewN ?_ _ | refine blk_drew ?_ | refine blk_alloc ?_ _)); refine blk_put (cs := #[.int .u32 0, .int .u32 0, .int .u32 0, .int .u32 0, .int .u32 0, .int .u32 0, .int .u32 0, .int .u32 0]) ?_ 0 _ rfl; (with_reducible repeat (first | refine blk_drewN ?_ _ | refine blk_drew ?_ | refine blk_alloc ?_ _)); exact BK181.out⟩
  have n2_ : Aside0 (Below w.heap.size w ((((((((w16.setCell ⟨gb181, 0, none⟩ (.int .u32 t172)).setCell ⟨gb181, 1, none⟩ (.int .u32 t173)).setCell ⟨gb181, 2, none⟩ (.int .u32 t174)).setCell ⟨gb181, 3, none⟩ (.int .u32 t175)).setCell ⟨gb181, 4, none⟩ (.int .u32 t176)).setCell ⟨gb181, 5, none⟩ (.int .u32 t177)).setCell ⟨gb181, 6, none⟩ (.int .u32 t178)).setCell ⟨gb181, 7, none⟩ (.int .u32 t179))) := ⟨by repeat (first | (with_reducible first | exact HB.out | apply below_alloc | apply pw_below_drewN | apply below_drew1 | refine below_set ?_ GE155.out | refine below_set ?_ GE181.out) | exact HB.out)⟩
  (try clear BK155)
  (try clear BK181)
  (try clear HB)
  generalize ((((((((w16.setCell ⟨gb181, 0, none⟩ (.int .u32 t172)).setCell ⟨gb181, 1, none⟩ (.int .u32 t173)).setCell ⟨gb181, 2, none⟩ (.int .u32 t174)).setCell ⟨gb181, 3, none⟩ (.int .u32 t175)).setCell ⟨gb181, 4, none⟩ (.int .u32 t176)).setCell ⟨gb181, 5, none⟩ (.int .u32 t177)).setCell ⟨gb181, 6, none⟩ (.int .u32 t178)).setCell ⟨gb181, 7, none⟩ (.int .u32 t179)) = w19 at n0_ n1_ n2_ ⊢
  have BK155 := n0_
  have BK181 := n1_
  have HB := n2_
  clear n0_ n1_ n2_
  have n0_ := Aside0.mk (blk_drew BK155.out)
  have n1_ := Aside0.mk (blk_drew BK181.out)
  have n2_ := Aside0.mk (below_drew1 HB.out)
  clear BK155
  clear BK181
  clear HB
  have BK155 := n0_
  have BK181 := n1_
  have HB := n2_
  clear n0_ n1_ n2_
  refine start_ (n := 10) (S := fun w' => w'.cell? ⟨gb181, 0, none⟩ = some (.int .u32 t172) ∧ w'.cell? ⟨gb181, 1, none⟩ = some (.int .u32 t173) ∧ w'.cell? ⟨gb181, 2, none⟩ = some (.int .u32 t174) ∧ w'.cell? ⟨gb181, 3, none⟩ = some (.int .u32 t175) ∧ w'.cell? ⟨gb181, 4, none⟩ = some (.int .u32 t176) ∧ w'.cell? ⟨gb181, 5, none⟩ = some (.int .u32 t177) ∧ w'.cell? ⟨gb181, 6, none⟩ = some (.int .u32 t178) ∧ w'.cell? ⟨gb181, 7, none⟩ = some (.int .u32 t179) ∧ w'.cell? ⟨gb155, 0, none⟩ = some (.int .u32 a0_0) ∧ w'.cell? ⟨gb155, 1, none⟩ = some (.bool a0_1)) (ds := []) #[false, false, false, false, false, false, false, false, false, false] (by kernel_rfl) rfl rfl ⟨(blk_cell BK181.out 0).trans rfl, (blk_cell BK181.out 1).trans rfl, (blk_cell BK181.out 2).trans rfl, (blk_cell BK181.out 3).trans rfl, (blk_cell BK181.out 4).trans rfl, (blk_cell BK181.out 5).trans rfl, (blk_cell BK181.out 6).trans rfl, (blk_cell BK181.out 7).trans rfl, (blk_cell BK155.out 0).trans rfl, (blk_cell BK155.out 1).trans rfl⟩ (fun hHeld => ?_); refine with_tabW arrearsref09_Days.tab2 arrearsref09_Days.bits2 (fun HT_ HW_ => ?_)
  generalize w19.drew = w20 at BK155 BK181 HB hHeld ⊢
  refine take_ (i := 0) (N := some 30) (v := ?_) (a' := ?_) #[true, false, false, false, false, false, false, false, false, false] rfl rfl (take_ofW HT_.out HW_.out (by kernel_rfl)) (fun _ _ _ h => h) (Or.inl ⟨by rfl, ?_⟩) hHeld ?_ ?_
  rotate_left
  · rintro w' ⟨s0, s1, s2, s3, s4, s5, s6, s7, s8, s9⟩
    go_simp
    with_reducible rfl
  rotate_left
  · simp only [Act.put, List.setIfInBounds_toArray, List.set_cons_zero, List.set_cons_succ, i64_w, i32_w]
    rfl
  refine take_ (i := 1) (N := some 31) (v := ?_) (a' := ?_) #[true, true, false, false, false, false, false, false, false, false] rfl rfl (take_ofW HT_.out HW_.out (by kernel_rfl)) (fun _ _ _ h => h) (Or.inl ⟨by rfl, ?_⟩) hHeld ?_ ?_
  rotate_left
  · rintro w' ⟨s0, s1, s2, s3, s4, s5, s6, s7, s8, s9⟩
    go_simp
    with_reducible rfl
  rotate_left
  · simp only [Act.put, List.setIfInBounds_toArray, List.set_cons_zero, List.set_cons_succ, i64_w, i32_w]
    rfl
  refine join_ (σ := Nat) 2 #[true, true, true, true, true, true, true, true, false, false] (fun s_ => [(32, .int .u64 t182), (33, .tuple #[.agg #[.int .u32 t183, .int .u32 t184, .int .u32 t185, .int .u32 t186, .int .u32 t187, .int .u32 t188, .int .u32 t189, .int .u32 t190], .int .u64 t191]), (12, .pointer (some ⟨s_, 0, none⟩)), (29, .tuple #[.agg #[.int .u32 t183, .int .u32 t184, .int .u32 t185, .int .u32 t186, .int .u32 t187, .int .u32 t188, .int .u32 t189, .int .u32 t190], .int .u64 t191]), (34, .agg #[.int .u32 t183, .int .u32 t184, .int .u32 t185, .int .u32 t186, .int .u32 t187, .int .u32 t188, .int .u32 t189, .int .u32 t190]), (35, .int .u64 t191)]) (fun s_ w' => (w'.cell? ⟨gb181, 0, none⟩ = some (.int .u32 t172) ∧ w'.cell? ⟨gb181, 1, none⟩ = some (.int .u32 t173) ∧ w'.cell? ⟨gb181, 2, none⟩ = some (.int .u32 t174) ∧ w'.cell? ⟨gb181, 3, none⟩ = some (.int .u32 t175) ∧ w'.cell? ⟨gb181, 4, none⟩ = some (.int .u32 t176) ∧ w'.cell? ⟨gb181, 5, none⟩ = some (.int .u32 t177) ∧ w'.cell? ⟨gb181, 6, none⟩ = some (.int .u32 t178) ∧ w'.cell? ⟨gb181, 7, none⟩ = some (.int .u32 t179) ∧ w'.cell? ⟨gb155, 0, none⟩ = some (.int .u32 a0_0) ∧ w'.cell? ⟨gb155, 1, none⟩ = some (.bool a0_1)) ∧ (w'.heap[gb155]? = some (.cells #[.int .u32 a0_0, .bool a0_1] 34 (0, 0))) ∧ (w'.heap[gb181]? = some (.cells #[.int .u32 t172, .int .u32 t173, .int .u32 t174, .int .u32 t175, .int .u32 t176, .int .u32 t177, .int .u32 t178, .int .u32 t179] 61 (0, 0))) ∧ (w'.heap[s_]? = some (.cells #[.int .u32 0, .int .u32 0, .int .u32 0, .int .u32 0, .int .u32 0, .int .u32 0, .int .u32 0, .int .u32 0] 61 (0, 0))) ∧ (w.heap.size ≤ s_) ∧ (w.heap.size ≤ s_) ∧ (gb155 ≠ s_) ∧ (s_ ≠ gb155) ∧ (gb181 ≠ s_) ∧ (s_ ≠ gb181) ∧ (Below w.heap.size w w')) ?_ ?_
  rotate_left
  · intro hCont
    refine two_ (i := 2) (j := 7) (Ni := some 32) (Nj := some 12) #[true, true, true, false, false, false, false, false, false, false] #[true, true, false, false, false, false, false, true, false, false] rfl rfl rfl rfl (two_of HT_.out (by kernel_rfl)) (by decide) (by decide) (fun K hK => ?_) (fun K hK => ?_)
    · skip
      refine goes_ Tryd.func7 (by kernel_rfl) rfl #[.agg #[.int .u32 a0_0, .bool a0_1]] (by rfl) rfl rfl (by (try simp only [List.map_toArray, List.map_cons, List.map_nil]); first | done | rfl | (simp only [List.length_drop, List.length_take]; rfl)) ?_
      with_reducible refine (arrearsref09_Unit.calls a0_0 a0_1 t182 _ A8.out).mono ?_
      rintro e w21 ⟨rfl, hb⟩
      refine ⟨_, rfl, ?_⟩
      have n0_ := Aside0.mk (blk_below (g := gb155) (o := .cells #[.int .u32 a0_0, .bool a0_1] 34 (0, 0)) (by (with_reducible repeat (first | refine blk_drewN ?_ _ | refine blk_drew ?_ | refine blk_alloc ?_ _)); exact BK155.out) hb)
      have n1_ := Aside0.mk (blk_below (g := gb181) (o := .cells #[.int .u32 t172, .int .u32 t173, .int .u32 t174, .int .u32 t175, .int .u32 t176, .int .u32 t177, .int .u32 t178, .int .u32 t179] 61 (0, 0)) (by (with_reducible repeat (first | refine blk_drewN ?_ _ | refine blk_drew ?_ | refine blk_alloc ?_ _)); exact BK181.out) hb)
      have n2_ := Aside0.mk (below_step (by repeat (first | (with_reducible first | exact HB.out | apply below_alloc | apply pw_below_drewN | apply below_drew1 | refine below_set ?_ GE155.out | refine below_set ?_ GE181.out) | exact HB.out)) hb)
      clear BK155
      clear BK181
      clear HB
      have BK155 := n0_
      have BK181 := n1_
      have HB := n2_
      clear n0_ n1_ n2_
      (try clear hb)
      (try clear hb2)
      (try clear hk)
      (try clear hi)
      refine hK.out _ _ ⟨(blk_cell BK181.out 0).trans rfl, (blk_cell BK181.out 1).trans rfl, (blk_cell BK181.out 2).trans rfl, (blk_cell BK181.out 3).trans rfl, (blk_cell BK181.out 4).trans rfl, (blk_cell BK181.out 5).trans rfl, (blk_cell BK181.out 6).trans rfl, (blk_cell BK181.out 7).trans rfl, (blk_cell BK155.out 0).trans rfl, (blk_cell BK155.out 1).trans rfl⟩ (fun hHeld => ?_)
      clear hK K
      refine norm_ (a' := ?_) ?_ ?_
      rotate_left
      · show Act.put _ (some 32) _ = _
        simp only [Act.put, List.setIfInBounds_toArray, List.set_cons_zero, List.set_cons_succ, i64_w, i32_w]
        rfl
      refine two_ (i := 3) (j := 7) (Ni := some 33) (Nj := some 12) #[true, true, true, true, false, false, false, false, false, false] #[true, true, true, false, false, false, false, true, false, false] rfl rfl rfl rfl (two_of HT_.out (by kernel_rfl)) (by decide) (by decide) (fun K hK => ?_) (fun K hK => ?_)
      · skip
        refine goes_ Tryd.func28 (by kernel_rfl) rfl #[.agg #[.int .u32 t172, .int .u32 t173, .int .u32 t174, .int .u32 t175, .int .u32 t176, .int .u32 t177, .int .u32 t178, .int .u32 t179], .int .u64 t182] (by rfl) rfl rfl (by (try simp only [List.map_toArray, List.map_cons, List.map_nil]); first | done | rfl | (simp only [List.length_drop, List.length_take]; rfl)) ?_
        with_reducible refine (arrearsref03_Div.calls t172 t173 t174 t175 t176 t177 t178 t179 t182 t183 t184 t185 t186 t187 t188 t189 t190 t191 _ A9.out).mono ?_
        rintro e w22 ⟨rfl, hb⟩
        refine ⟨_, rfl, ?_⟩
        have n0_ := Aside0.mk (blk_below (g := gb155) (o := .cells #[.int .u32 a0_0, .bool a0_1] 34 (0, 0)) (by (with_reducible repeat (first | refine blk_drewN ?_ _ | refine blk_drew ?_ | refine blk_alloc ?_ _)); exact BK155.out) hb)
        have n1_ := Aside0.mk (blk_below (g := gb181) (o := .cells #[.int .u32 t172, .int .u32 t173, .int .u32 t174, .int .u32 t175, .int .u32 t176, .int .u32 t177, .int .u32 t178, .int .u32 t179] 61 (0, 0)) (by (with_reducible repeat (first | refine blk_drewN ?_ _ | refine blk_drew ?_ | refine blk_alloc ?_ _)); exact BK181.out) hb)
        have n2_ := Aside0.mk (below_step (by repeat (first | (with_reducible first | exact HB.out | apply below_alloc | apply pw_below_drewN | apply below_drew1 | refine below_set ?_ GE155.out | refine below_set ?_ GE181.out) | exact HB.out)) hb)
        clear BK155
        clear BK181
        clear HB
        have BK155 := n0_
        have BK181 := n1_
        have HB := n2_
        clear n0_ n1_ n2_
        (try clear hb)
        (try clear hb2)
        (try clear hk)
        (try clear hi)
        refine hK.out _ _ ⟨(blk_cell BK181.out 0).trans rfl, (blk_cell BK181.out 1).trans rfl, (blk_cell BK181.out 2).trans rfl, (blk_cell BK181.out 3).trans rfl, (blk_cell BK181.out 4).trans rfl, (blk_cell BK181.out 5).trans rfl, (blk_cell BK181.out 6).trans rfl, (blk_cell BK181.out 7).trans rfl, (blk_cell BK155.out 0).trans rfl, (blk_cell BK155.out 1).trans rfl⟩ (fun hHeld => ?_)
        clear hK K
        refine norm_ (a' := ?_) ?_ ?_
        rotate_left
        · show Act.put _ (some 33) _ = _
          simp only [Act.put, List.setIfInBounds_toArray, List.set_cons_zero, List.set_cons_succ, i64_w, i32_w]
          rfl
        refine pure_ (i := 4) (N := some 29) (v := ?_) (a' := ?_) #[true, true, true, true, true, false, false, false, false, false] rfl rfl (any_of HT_.out (by kernel_rfl)) (fun _ _ _ h => h) (Or.inl ⟨by rfl, ?_⟩) ?_ ?_
        rotate_left
        · intro w'
          go_simp
          with_reducible rfl
        rotate_left
        · simp only [Act.put, List.setIfInBounds_toArray, List.set_cons_zero, List.set_cons_succ, i64_w, i32_w]
          rfl
        refine pure_ (i := 5) (N := some 34) (v := ?_) (a' := ?_) #[true, true, true, true, true, true, false, false, false, false] rfl rfl (any_of HT_.out (by kernel_rfl)) (fun _ _ _ h => h) (Or.inl ⟨by rfl, ?_⟩) ?_ ?_
        rotate_left
        · intro w'
          go_simp
          with_reducible rfl
        rotate_left
        · simp only [Act.put, List.setIfInBounds_toArray, List.set_cons_zero, List.set_cons_succ, i64_w, i32_w]
          rfl
        refine pure_ (i := 6) (N := some 35) (v := ?_) (a' := ?_) #[true, true, true, true, true, true, true, false, false, false] rfl rfl (any_of HT_.out (by kernel_rfl)) (fun _ _ _ h => h) (Or.inl ⟨by rfl, ?_⟩) ?_ ?_
        rotate_left
        · intro w'
          go_simp
          with_reducible rfl
        rotate_left
        · simp only [Act.put, List.setIfInBounds_toArray, List.set_cons_zero, List.set_cons_succ, i64_w, i32_w]
          rfl
        refine one_ (i := 7) (N := some 12) #[true, true, true, true, true, true, true, true, false, false] rfl rfl (one_of HT_.out (by kernel_rfl)) (by decide) (fun K hK => ?_)
        refine box_step ?hg (N := 12) ?hd (cs := #[.int .u32 0, .int .u32 0, .int .u32 0, .int .u32 0, .int .u32 0, .int .u32 0, .int .u32 0, .int .u32 0]) (t := 61) ?hr ?_; (case hd => rfl); (case hg => rfl); (case hr => first | (go_simp; done) | (go_simp; rfl))
        intro gb192 hg w23 hbox hb
        have n0_ := Aside0.mk (blk_below (g := gb155) (o := .cells #[.int .u32 a0_0, .bool a0_1] 34 (0, 0)) (by (with_reducible repeat (first | refine blk_drewN ?_ _ | refine blk_drew ?_ | refine blk_alloc ?_ _)); exact BK155.out) hb)
        have n1_ := Aside0.mk (blk_below (g := gb181) (o := .cells #[.int .u32 t172, .int .u32 t173, .int .u32 t174, .int .u32 t175, .int .u32 t176, .int .u32 t177, .int .u32 t178, .int .u32 t179] 61 (0, 0)) (by (with_reducible repeat (first | refine blk_drewN ?_ _ | refine blk_drew ?_ | refine blk_alloc ?_ _)); exact BK181.out) hb)
        have n2_ := Aside0.mk (below_step (by repeat (first | (with_reducible first | exact HB.out | apply below_alloc | apply pw_below_drewN | apply below_drew1 | refine below_set ?_ GE155.out | refine below_set ?_ GE181.out) | exact HB.out)) hb)
        have n3_ := Aside0.mk (hbox)
        have n4_ := Aside0.mk ((by rw [hg]; exact (below_size (by repeat (first | (with_reducible first | exact HB.out | apply below_alloc | apply pw_below_drewN | apply below_drew1 | refine below_set ?_ GE155.out | refine below_set ?_ GE181.out) | exact HB.out))) : w.heap.size ≤ gb192))
        have n5_ := Aside0.mk ((by rw [hg]; exact (below_size (by repeat (first | (with_reducible first | exact HB.out | apply below_alloc | apply pw_below_drewN | apply below_drew1 | refine below_set ?_ GE155.out | refine below_set ?_ GE181.out) | exact HB.out))) : w.heap.size ≤ gb192))
        have n6_ := Aside0.mk ((by rw [hg]; exact Nat.ne_of_lt (blk_lt (g := gb155) (o := .cells #[.int .u32 a0_0, .bool a0_1] 34 (0, 0)) (by (with_reducible repeat (first | refine blk_drewN ?_ _ | refine blk_drew ?_ | refine blk_alloc ?_ _)); exact BK155.out)) : gb155 ≠ gb192))
        have n7_ := Aside0.mk ((by rw [hg]; exact Nat.ne_of_gt (blk_lt (g := gb155) (o := .cells #[.int .u32 a0_0, .bool a0_1] 34 (0, 0)) (by (with_reducible repeat (first | refine blk_drewN ?_ _ | refine blk_drew ?_ | refine blk_alloc ?_ _)); exact BK155.out)) : gb192 ≠ gb155))
        have n8_ := Aside0.mk ((by rw [hg]; exact Nat.ne_of_lt (blk_lt (g := gb181) (o := .cells #[.int .u32 t172, .int .u32 t173, .int .u32 t174, .int .u32 t175, .int .u32 t176, .int .u32 t177, .int .u32 t178, .int .u32 t179] 61 (0, 0)) (by (with_reducible repeat (first | refine blk_drewN ?_ _ | refine blk_drew ?_ | refine blk_alloc ?_ _)); exact BK181.out)) : gb181 ≠ gb192))
        have n9_ := Aside0.mk ((by rw [hg]; exact Nat.ne_of_gt (blk_lt (g := gb181) (o := .cells #[.int .u32 t172, .int .u32 t173, .int .u32 t174, .int .u32 t175, .int .u32 t176, .int .u32 t177, .int .u32 t178, .int .u32 t179] 61 (0, 0)) (by (with_reducible repeat (first | refine blk_drewN ?_ _ | refine blk_drew ?_ | refine blk_alloc ?_ _)); exact BK181.out)) : gb192 ≠ gb181))
        clear BK155
        clear BK181
        clear HB
        have BK155 := n0_
        have BK181 := n1_
        have HB := n2_
        have BK192 := n3_
        have GW192 := n4_
        have GE192 := n5_
        have NB155_192 := n6_
        have NB192_155 := n7_
        have NB181_192 := n8_
        have NB192_181 := n9_
        clear n0_ n1_ n2_ n3_ n4_ n5_ n6_ n7_ n8_ n9_
        clear hb hbox hg
        refine hK.out _ _ ⟨(blk_cell BK181.out 0).trans rfl, (blk_cell BK181.out 1).trans rfl, (blk_cell BK181.out 2).trans rfl, (blk_cell BK181.out 3).trans rfl, (blk_cell BK181.out 4).trans rfl, (blk_cell BK181.out 5).trans rfl, (blk_cell BK181.out 6).trans rfl, (blk_cell BK181.out 7).trans rfl, (blk_cell BK155.out 0).trans rfl, (blk_cell BK155.out 1).trans rfl⟩ (fun hHeld => ?_)
        clear hK K
        refine norm_ (a' := ?_) ?_ ?_
        rotate_left
        · show Act.put _ (some 12) _ = _
          simp only [Act.put, List.setIfInBounds_toArray, List.set_cons_zero, List.set_cons_succ, i64_w, i32_w]
          rfl
        exact norm_ (by first | (simp only [putAll, Act.put, List.setIfInBounds_toArray, List.set_cons_zero, List.set_cons_succ]; done) | (simp only [putAll, Act.put, List.setIfInBounds_toArray, List.set_cons_zero, List.set_cons_succ, i64_w, i32_w]; done) | (simp only [putAll, Act.put, List.setIfInBounds_toArray, List.set_cons_zero, List.set_cons_succ, i64_w, i32_w]; rfl)) (hCont (gb192) _ ⟨hHeld, (by (with_reducible repeat (first | refine blk_drewN ?_ _ | refine blk_drew ?_ | refine blk_alloc ?_ _)); exact BK155.out), (by (with_reducible repeat (first | refine blk_drewN ?_ _ | refine blk_drew ?_ | refine blk_alloc ?_ _)); exact BK181.out), (by (with_reducible repeat (first | refine blk_drewN ?_ _ | refine blk_drew ?_ | refine blk_alloc ?_ _)); exact BK192.out), GW192.out, GE192.out, NB155_192.out, NB192_155.out, NB181_192.out, NB192_181.out, (by repeat (first | (with_reducible first | exact HB.out | apply below_alloc | apply pw_below_drewN | apply below_drew1 | refine below_set ?_ GE155.out | refine below_set ?_ GE181.out | refine below_set ?_ GE192.out) | exact HB.out))⟩)
      · skip
        refine box_step ?hg (N := 12) ?hd (cs := #[.int .u32 0, .int .u32 0, .int .u32 0, .int .u32 0, .int .u32 0, .int .u32 0, .int .u32 0, .int .u32 0]) (t := 61) ?hr ?_; (case hd => rfl); (case hg => rfl); (case hr => first | (go_simp; done) | (go_simp; rfl))
        intro gb192 hg w22 hbox hb
        have n0_ := Aside0.mk (blk_below (g := gb155) (o := .cells #[.int .u32 a0_0, .bool a0_1] 34 (0, 0)) (by (with_reducible repeat (first | refine blk_drewN ?_ _ | refine blk_drew ?_ | refine blk_alloc ?_ _)); exact BK155.out) hb)
        have n1_ := Aside0.mk (blk_below (g := gb181) (o := .cells #[.int .u32 t172, .int .u32 t173, .int .u32 t174, .int .u32 t175, .int .u32 t176, .int .u32 t177, .int .u32 t178, .int .u32 t179] 61 (0, 0)) (by (with_reducible repeat (first | refine blk_drewN ?_ _ | refine blk_drew ?_ | refine blk_alloc ?_ _)); exact BK181.out) hb)
        have n2_ := Aside0.mk (below_step (by repeat (first | (with_reducible first | exact HB.out | apply below_alloc | apply pw_below_drewN | apply below_drew1 | refine below_set ?_ GE155.out | refine below_set ?_ GE181.out) | exact HB.out)) hb)
        have n3_ := Aside0.mk (hbox)
        have n4_ := Aside0.mk ((by rw [hg]; exact (below_size (by repeat (first | (with_reducible first | exact HB.out | apply below_alloc | apply pw_below_drewN | apply below_drew1 | refine below_set ?_ GE155.out | refine below_set ?_ GE181.out) | exact HB.out))) : w.heap.size ≤ gb192))
        have n5_ := Aside0.mk ((by rw [hg]; exact (below_size (by repeat (first | (with_reducible first | exact HB.out | apply below_alloc | apply pw_below_drewN | apply below_drew1 | refine below_set ?_ GE155.out | refine below_set ?_ GE181.out) | exact HB.out))) : w.heap.size ≤ gb192))
        have n6_ := Aside0.mk ((by rw [hg]; exact Nat.ne_of_lt (blk_lt (g := gb155) (o := .cells #[.int .u32 a0_0, .bool a0_1] 34 (0, 0)) (by (with_reducible repeat (first | refine blk_drewN ?_ _ | refine blk_drew ?_ | refine blk_alloc ?_ _)); exact BK155.out)) : gb155 ≠ gb192))
        have n7_ := Aside0.mk ((by rw [hg]; exact Nat.ne_of_gt (blk_lt (g := gb155) (o := .cells #[.int .u32 a0_0, .bool a0_1] 34 (0, 0)) (by (with_reducible repeat (first | refine blk_drewN ?_ _ | refine blk_drew ?_ | refine blk_alloc ?_ _)); exact BK155.out)) : gb192 ≠ gb155))
        have n8_ := Aside0.mk ((by rw [hg]; exact Nat.ne_of_lt (blk_lt (g := gb181) (o := .cells #[.int .u32 t172, .int .u32 t173, .int .u32 t174, .int .u32 t175, .int .u32 t176, .int .u32 t177, .int .u32 t178, .int .u32 t179] 61 (0, 0)) (by (with_reducible repeat (first | refine blk_drewN ?_ _ | refine blk_drew ?_ | refine blk_alloc ?_ _)); exact BK181.out)) : gb181 ≠ gb192))
        have n9_ := Aside0.mk ((by rw [hg]; exact Nat.ne_of_gt (blk_lt (g := gb181) (o := .cells #[.int .u32 t172, .int .u32 t173, .int .u32 t174, .int .u32 t175, .int .u32 t176, .int .u32 t177, .int .u32 t178, .int .u32 t179] 61 (0, 0)) (by (with_reducible repeat (first | refine blk_drewN ?_ _ | refine blk_drew ?_ | refine blk_alloc ?_ _)); exact BK181.out)) : gb192 ≠ gb181))
        clear BK155
        clear BK181
        clear HB
        have BK155 := n0_
        have BK181 := n1_
        have HB := n2_
        have BK192 := n3_
        have GW192 := n4_
        have GE192 := n5_
        have NB155_192 := n6_
        have NB192_155 := n7_
        have NB181_192 := n8_
        have NB192_181 := n9_
        clear n0_ n1_ n2_ n3_ n4_ n5_ n6_ n7_ n8_ n9_
        clear hb hbox hg
        refine hK.out _ _ ⟨(blk_cell BK181.out 0).trans rfl, (blk_cell BK181.out 1).trans rfl, (blk_cell BK181.out 2).trans rfl, (blk_cell BK181.out 3).trans rfl, (blk_cell BK181.out 4).trans rfl, (blk_cell BK181.out 5).trans rfl, (blk_cell BK181.out 6).trans rfl, (blk_cell BK181.out 7).trans rfl, (blk_cell BK155.out 0).trans rfl, (blk_cell BK155.out 1).trans rfl⟩ (fun hHeld => ?_)
        clear hK K
        refine norm_ (a' := ?_) ?_ ?_
        rotate_left
        · show Act.put _ (some 12) _ = _
          simp only [Act.put, List.setIfInBounds_toArray, List.set_cons_zero, List.set_cons_succ, i64_w, i32_w]
          rfl
        refine one_ (i := 3) (N := some 33) #[true, true, true, true, false, false, false, true, false, false] rfl rfl (one_of HT_.out (by kernel_rfl)) (by decide) (fun K hK => ?_)
        refine goes_ Tryd.func28 (by kernel_rfl) rfl #[.agg #[.int .u32 t172, .int .u32 t173, .int .u32 t174, .int .u32 t175, .int .u32 t176, .int .u32 t177, .int .u32 t178, .int .u32 t179], .int .u64 t182] (by rfl) rfl rfl (by (try simp only [List.map_toArray, List.map_cons, List.map_nil]); first | done | rfl | (simp only [List.length_drop, List.length_take]; rfl)) ?_
        with_reducible refine (arrearsref03_Div.calls t172 t173 t174 t175 t176 t177 t178 t179 t182 t183 t184 t185 t186 t187 t188 t189 t190 t191 _ A9.out).mono ?_
        rintro e w23 ⟨rfl, hb⟩
        refine ⟨_, rfl, ?_⟩
        have n0_ := Aside0.mk (blk_below (g := gb155) (o := .cells #[.int .u32 a0_0, .bool a0_1] 34 (0, 0)) (by (with_reducible repeat (first | refine blk_drewN ?_ _ | refine blk_drew ?_ | refine blk_alloc ?_ _)); exact BK155.out) hb)
        have n1_ := Aside0.mk (blk_below (g := gb181) (o := .cells #[.int .u32 t172, .int .u32 t173, .int .u32 t174, .int .u32 t175, .int .u32 t176, .int .u32 t177, .int .u32 t178, .int .u32 t179] 61 (0, 0)) (by (with_reducible repeat (first | refine blk_drewN ?_ _ | refine blk_drew ?_ | refine blk_alloc ?_ _)); exact BK181.out) hb)
        have n2_ := Aside0.mk (blk_below (g := gb192) (o := .cells #[.int .u32 0, .int .u32 0, .int .u32 0, .int .u32 0, .int .u32 0, .int .u32 0, .int .u32 0, .int .u32 0] 61 (0, 0)) (by (with_reducible repeat (first | refine blk_drewN ?_ _ | refine blk_drew ?_ | refine blk_alloc ?_ _)); exact BK192.out) hb)
        have n3_ := Aside0.mk (below_step (by repeat (first | (with_reducible first | exact HB.out | apply below_alloc | apply pw_below_drewN | apply below_drew1 | refine below_set ?_ GE155.out | refine below_set ?_ GE181.out | refine below_set ?_ GE192.out) | exact HB.out)) hb)
        clear BK155
        clear BK181
        clear BK192
        clear HB
        have BK155 := n0_
        have BK181 := n1_
        have BK192 := n2_
        have HB := n3_
        clear n0_ n1_ n2_ n3_
        (try clear hb)
        (try clear hb2)
        (try clear hk)
        (try clear hi)
        refine hK.out _ _ ⟨(blk_cell BK181.out 0).trans rfl, (blk_cell BK181.out 1).trans rfl, (blk_cell BK181.out 2).trans rfl, (blk_cell BK181.out 3).trans rfl, (blk_cell BK181.out 4).trans rfl, (blk_cell BK181.out 5).trans rfl, (blk_cell BK181.out 6).trans rfl, (blk_cell BK181.out 7).trans rfl, (blk_cell BK155.out 0).trans rfl, (blk_cell BK155.out 1).trans rfl⟩ (fun hHeld => ?_)
        clear hK K
        refine norm_ (a' := ?_) ?_ ?_
        rotate_left
        · show Act.put _ (some 33) _ = _
          simp only [Act.put, List.setIfInBounds_toArray, List.set_cons_zero, List.set_cons_succ, i64_w, i32_w]
          rfl
        refine pure_ (i := 4) (N := some 29) (v := ?_) (a' := ?_) #[true, true, true, true, true, false, false, true, false, false] rfl rfl (any_of HT_.out (by kernel_rfl)) (fun _ _ _ h => h) (Or.inl ⟨by rfl, ?_⟩) ?_ ?_
        rotate_left
        · intro w'
          go_simp
          with_reducible rfl
        rotate_left
        · simp only [Act.put, List.setIfInBounds_toArray, List.set_cons_zero, List.set_cons_succ, i64_w, i32_w]
          rfl
        refine pure_ (i := 5) (N := some 34) (v := ?_) (a' := ?_) #[true, true, true, true, true, true, false, true, false, false] rfl rfl (any_of HT_.out (by kernel_rfl)) (fun _ _ _ h => h) (Or.inl ⟨by rfl, ?_⟩) ?_ ?_
        rotate_left
        · intro w'
          go_simp
          with_reducible rfl
        rotate_left
        · simp only [Act.put, List.setIfInBounds_toArray, List.set_cons_zero, List.set_cons_succ, i64_w, i32_w]
          rfl
        refine pure_ (i := 6) (N := some 35) (v := ?_) (a' := ?_) #[true, true, true, true, true, true, true, true, false, false] rfl rfl (any_of HT_.out (by kernel_rfl)) (fun _ _ _ h => h) (Or.inl ⟨by rfl, ?_⟩) ?_ ?_
        rotate_left
        · intro w'
          go_simp
          with_reducible rfl
        rotate_left
        · simp only [Act.put, List.setIfInBounds_toArray, List.set_cons_zero, List.set_cons_succ, i64_w, i32_w]
          rfl
        exact norm_ (by first | (simp only [putAll, Act.put, List.setIfInBounds_toArray, List.set_cons_zero, List.set_cons_succ]; done) | (simp only [putAll, Act.put, List.setIfInBounds_toArray, List.set_cons_zero, List.set_cons_succ, i64_w, i32_w]; done) | (simp only [putAll, Act.put, List.setIfInBounds_toArray, List.set_cons_zero, List.set_cons_succ, i64_w, i32_w]; rfl)) (hCont (gb192) _ ⟨hHeld, (by (with_reducible repeat (first | refine blk_drewN ?_ _ | refine blk_drew ?_ | refine blk_alloc ?_ _)); exact BK155.out), (by (with_reducible repeat (first | refine blk_drewN ?_ _ | refine blk_drew ?_ | refine blk_alloc ?_ _)); exact BK181.out), (by (with_reducible repeat (first | refine blk_drewN ?_ _ | refine blk_drew ?_ | refine blk_alloc ?_ _)); exact BK192.out), GW192.out, GE192.out, NB155_192.out, NB192_155.out, NB181_192.out, NB192_181.out, (by repeat (first | (with_reducible first | exact HB.out | apply below_alloc | apply pw_below_drewN | apply below_drew1 | refine below_set ?_ GE155.out | refine below_set ?_ GE181.out | refine below_set ?_ GE192.out) | exact HB.out))⟩)
    · skip
      refine box_step ?hg (N := 12) ?hd (cs := #[.int .u32 0, .int .u32 0, .int .u32 0, .int .u32 0, .int .u32 0, .int .u32 0, .int .u32 0, .int .u32 0]) (t := 61) ?hr ?_; (case hd => rfl); (case hg => rfl); (case hr => first | (go_simp; done) | (go_simp; rfl))
      intro gb192 hg w21 hbox hb
      have n0_ := Aside0.mk (blk_below (g := gb155) (o := .cells #[.int .u32 a0_0, .bool a0_1] 34 (0, 0)) (by (with_reducible repeat (first | refine blk_drewN ?_ _ | refine blk_drew ?_ | refine blk_alloc ?_ _)); exact BK155.out) hb)
      have n1_ := Aside0.mk (blk_below (g := gb181) (o := .cells #[.int .u32 t172, .int .u32 t173, .int .u32 t174, .int .u32 t175, .int .u32 t176, .int .u32 t177, .int .u32 t178, .int .u32 t179] 61 (0, 0)) (by (with_reducible repeat (first | refine blk_drewN ?_ _ | refine blk_drew ?_ | refine blk_alloc ?_ _)); exact BK181.out) hb)
      have n2_ := Aside0.mk (below_step (by repeat (first | (with_reducible first | exact HB.out | apply below_alloc | apply pw_below_drewN | apply below_drew1 | refine below_set ?_ GE155.out | refine below_set ?_ GE181.out) | exact HB.out)) hb)
      have n3_ := Aside0.mk (hbox)
      have n4_ := Aside0.mk ((by rw [hg]; exact (below_size (by repeat (first | (with_reducible first | exact HB.out | apply below_alloc | apply pw_below_drewN | apply below_drew1 | refine below_set ?_ GE155.out | refine below_set ?_ GE181.out) | exact HB.out))) : w.heap.size ≤ gb192))
      have n5_ := Aside0.mk ((by rw [hg]; exact (below_size (by repeat (first | (with_reducible first | exact HB.out | apply below_alloc | apply pw_below_drewN | apply below_drew1 | refine below_set ?_ GE155.out | refine below_set ?_ GE181.out) | exact HB.out))) : w.heap.size ≤ gb192))
      have n6_ := Aside0.mk ((by rw [hg]; exact Nat.ne_of_lt (blk_lt (g := gb155) (o := .cells #[.int .u32 a0_0, .bool a0_1] 34 (0, 0)) (by (with_reducible repeat (first | refine blk_drewN ?_ _ | refine blk_drew ?_ | refine blk_alloc ?_ _)); exact BK155.out)) : gb155 ≠ gb192))
      have n7_ := Aside0.mk ((by rw [hg]; exact Nat.ne_of_gt (blk_lt (g := gb155) (o := .cells #[.int .u32 a0_0, .bool a0_1] 34 (0, 0)) (by (with_reducible repeat (first | refine blk_drewN ?_ _ | refine blk_drew ?_ | refine blk_alloc ?_ _)); exact BK155.out)) : gb192 ≠ gb155))
      have n8_ := Aside0.mk ((by rw [hg]; exact Nat.ne_of_lt (blk_lt (g := gb181) (o := .cells #[.int .u32 t172, .int .u32 t173, .int .u32 t174, .int .u32 t175, .int .u32 t176, .int .u32 t177, .int .u32 t178, .int .u32 t179] 61 (0, 0)) (by (with_reducible repeat (first | refine blk_drewN ?_ _ | refine blk_drew ?_ | refine blk_alloc ?_ _)); exact BK181.out)) : gb181 ≠ gb192))
      have n9_ := Aside0.mk ((by rw [hg]; exact Nat.ne_of_gt (blk_lt (g := gb181) (o := .cells #[.int .u32 t172, .int .u32 t173, .int .u32 t174, .int .u32 t175, .int .u32 t176, .int .u32 t177, .int .u32 t178, .int .u32 t179] 61 (0, 0)) (by (with_reducible repeat (first | refine blk_drewN ?_ _ | refine blk_drew ?_ | refine blk_alloc ?_ _)); exact BK181.out)) : gb192 ≠ gb181))
      clear BK155
      clear BK181
      clear HB
      have BK155 := n0_
      have BK181 := n1_
      have HB := n2_
      have BK192 := n3_
      have GW192 := n4_
      have GE192 := n5_
      have NB155_192 := n6_
      have NB192_155 := n7_
      have NB181_192 := n8_
      have NB192_181 := n9_
      clear n0_ n1_ n2_ n3_ n4_ n5_ n6_ n7_ n8_ n9_
      clear hb hbox hg
      refine hK.out _ _ ⟨(blk_cell BK181.out 0).trans rfl, (blk_cell BK181.out 1).trans rfl, (blk_cell BK181.out 2).trans rfl, (blk_cell BK181.out 3).trans rfl, (blk_cell BK181.out 4).trans rfl, (blk_cell BK181.out 5).trans rfl, (blk_cell BK181.out 6).trans rfl, (blk_cell BK181.out 7).trans rfl, (blk_cell BK155.out 0).trans rfl, (blk_cell BK155.out 1).trans rfl⟩ (fun hHeld => ?_)
      clear hK K
      refine norm_ (a' := ?_) ?_ ?_
      rotate_left
      · show Act.put _ (some 12) _ = _
        simp only [Act.put, List.setIfInBounds_toArray, List.set_cons_zero, List.set_cons_succ, i64_w, i32_w]
        rfl
      refine one_ (i := 2) (N := some 32) #[true, true, true, false, false, false, false, true, false, false] rfl rfl (one_of HT_.out (by kernel_rfl)) (by decide) (fun K hK => ?_)
      refine goes_ Tryd.func7 (by kernel_rfl) rfl #[.agg #[.int .u32 a0_0, .bool a0_1]] (by rfl) rfl rfl (by (try simp only [List.map_toArray, List.map_cons, List.map_nil]); first | done | rfl | (simp only [List.length_drop, List.length_take]; rfl)) ?_
      with_reducible refine (arrearsref09_Unit.calls a0_0 a0_1 t182 _ A8.out).mono ?_
      rintro e w22 ⟨rfl, hb⟩
      refine ⟨_, rfl, ?_⟩
      have n0_ := Aside0.mk (blk_below (g := gb155) (o := .cells #[.int .u32 a0_0, .bool a0_1] 34 (0, 0)) (by (with_reducible repeat (first | refine blk_drewN ?_ _ | refine blk_drew ?_ | refine blk_alloc ?_ _)); exact BK155.out) hb)
      have n1_ := Aside0.mk (blk_below (g := gb181) (o := .cells #[.int .u32 t172, .int .u32 t173, .int .u32 t174, .int .u32 t175, .int .u32 t176, .int .u32 t177, .int .u32 t178, .int .u32 t179] 61 (0, 0)) (by (with_reducible repeat (first | refine blk_drewN ?_ _ | refine blk_drew ?_ | refine blk_alloc ?_ _)); exact BK181.out) hb)
      have n2_ := Aside0.mk (blk_below (g := gb192) (o := .cells #[.int .u32 0, .int .u32 0, .int .u32 0, .int .u32 0, .int .u32 0, .int .u32 0, .int .u32 0, .int .u32 0] 61 (0, 0)) (by (with_reducible repeat (first | refine blk_drewN ?_ _ | refine blk_drew ?_ | refine blk_alloc ?_ _)); exact BK192.out) hb)
      have n3_ := Aside0.mk (below_step (by repeat (first | (with_reducible first | exact HB.out | apply below_alloc | apply pw_below_drewN | apply below_drew1 | refine below_set ?_ GE155.out | refine below_set ?_ GE181.out | refine below_set ?_ GE192.out) | exact HB.out)) hb)
      clear BK155
      clear BK181
      clear BK192
      clear HB
      have BK155 := n0_
      have BK181 := n1_
      have BK192 := n2_
      have HB := n3_
      clear n0_ n1_ n2_ n3_
      (try clear hb)
      (try clear hb2)
      (try clear hk)
      (try clear hi)
      refine hK.out _ _ ⟨(blk_cell BK181.out 0).trans rfl, (blk_cell BK181.out 1).trans rfl, (blk_cell BK181.out 2).trans rfl, (blk_cell BK181.out 3).trans rfl, (blk_cell BK181.out 4).trans rfl, (blk_cell BK181.out 5).trans rfl, (blk_cell BK181.out 6).trans rfl, (blk_cell BK181.out 7).trans rfl, (blk_cell BK155.out 0).trans rfl, (blk_cell BK155.out 1).trans rfl⟩ (fun hHeld => ?_)
      clear hK K
      refine norm_ (a' := ?_) ?_ ?_
      rotate_left
      · show Act.put _ (some 32) _ = _
        simp only [Act.put, List.setIfInBounds_toArray, List.set_cons_zero, List.set_cons_succ, i64_w, i32_w]
        rfl
      refine one_ (i := 3) (N := some 33) #[true, true, true, true, false, false, false, true, false, false] rfl rfl (one_of HT_.out (by kernel_rfl)) (by decide) (fun K hK => ?_)
      refine goes_ Tryd.func28 (by kernel_rfl) rfl #[.agg #[.int .u32 t172, .int .u32 t173, .int .u32 t174, .int .u32 t175, .int .u32 t176, .int .u32 t177, .int .u32 t178, .int .u32 t179], .int .u64 t182] (by rfl) rfl rfl (by (try simp only [List.map_toArray, List.map_cons, List.map_nil]); first | done | rfl | (simp only [List.length_drop, List.length_take]; rfl)) ?_
      with_reducible refine (arrearsref03_Div.calls t172 t173 t174 t175 t176 t177 t178 t179 t182 t183 t184 t185 t186 t187 t188 t189 t190 t191 _ A9.out).mono ?_
      rintro e w23 ⟨rfl, hb⟩
      refine ⟨_, rfl, ?_⟩
      have n0_ := Aside0.mk (blk_below (g := gb155) (o := .cells #[.int .u32 a0_0, .bool a0_1] 34 (0, 0)) (by (with_reducible repeat (first | refine blk_drewN ?_ _ | refine blk_drew ?_ | refine blk_alloc ?_ _)); exact BK155.out) hb)
      have n1_ := Aside0.mk (blk_below (g := gb181) (o := .cells #[.int .u32 t172, .int .u32 t173, .int .u32 t174, .int .u32 t175, .int .u32 t176, .int .u32 t177, .int .u32 t178, .int .u32 t179] 61 (0, 0)) (by (with_reducible repeat (first | refine blk_drewN ?_ _ | refine blk_drew ?_ | refine blk_alloc ?_ _)); exact BK181.out) hb)
      have n2_ := Aside0.mk (blk_below (g := gb192) (o := .cells #[.int .u32 0, .int .u32 0, .int .u32 0, .int .u32 0, .int .u32 0, .int .u32 0, .int .u32 0, .int .u32 0] 61 (0, 0)) (by (with_reducible repeat (first | refine blk_drewN ?_ _ | refine blk_drew ?_ | refine blk_alloc ?_ _)); exact BK192.out) hb)
      have n3_ := Aside0.mk (below_step (by repeat (first | (with_reducible first | exact HB.out | apply below_alloc | apply pw_below_drewN | apply below_drew1 | refine below_set ?_ GE155.out | refine below_set ?_ GE181.out | refine below_set ?_ GE192.out) | exact HB.out)) hb)
      clear BK155
      clear BK181
      clear BK192
      clear HB
      have BK155 := n0_
      have BK181 := n1_
      have BK192 := n2_
      have HB := n3_
      clear n0_ n1_ n2_ n3_
      (try clear hb)
      (try clear hb2)
      (try clear hk)
      (try clear hi)
      refine hK.out _ _ ⟨(blk_cell BK181.out 0).trans rfl, (blk_cell BK181.out 1).trans rfl, (blk_cell BK181.out 2).trans rfl, (blk_cell BK181.out 3).trans rfl, (blk_cell BK181.out 4).trans rfl, (blk_cell BK181.out 5).trans rfl, (blk_cell BK181.out 6).trans rfl, (blk_cell BK181.out 7).trans rfl, (blk_cell BK155.out 0).trans rfl, (blk_cell BK155.out 1).trans rfl⟩ (fun hHeld => ?_)
      clear hK K
      refine norm_ (a' := ?_) ?_ ?_
      rotate_left
      · show Act.put _ (some 33) _ = _
        simp only [Act.put, List.setIfInBounds_toArray, List.set_cons_zero, List.set_cons_succ, i64_w, i32_w]
        rfl
      refine pure_ (i := 4) (N := some 29) (v := ?_) (a' := ?_) #[true, true, true, true, true, false, false, true, false, false] rfl rfl (any_of HT_.out (by kernel_rfl)) (fun _ _ _ h => h) (Or.inl ⟨by rfl, ?_⟩) ?_ ?_
      rotate_left
      · intro w'
        go_simp
        with_reducible rfl
      rotate_left
      · simp only [Act.put, List.setIfInBounds_toArray, List.set_cons_zero, List.set_cons_succ, i64_w, i32_w]
        rfl
      refine pure_ (i := 5) (N := some 34) (v := ?_) (a' := ?_) #[true, true, true, true, true, true, false, true, false, false] rfl rfl (any_of HT_.out (by kernel_rfl)) (fun _ _ _ h => h) (Or.inl ⟨by rfl, ?_⟩) ?_ ?_
      rotate_left
      · intro w'
        go_simp
        with_reducible rfl
      rotate_left
      · simp only [Act.put, List.setIfInBounds_toArray, List.set_cons_zero, List.set_cons_succ, i64_w, i32_w]
        rfl
      refine pure_ (i := 6) (N := some 35) (v := ?_) (a' := ?_) #[true, true, true, true, true, true, true, true, false, false] rfl rfl (any_of HT_.out (by kernel_rfl)) (fun _ _ _ h => h) (Or.inl ⟨by rfl, ?_⟩) ?_ ?_
      rotate_left
      · intro w'
        go_simp
        with_reducible rfl
      rotate_left
      · simp only [Act.put, List.setIfInBounds_toArray, List.set_cons_zero, List.set_cons_succ, i64_w, i32_w]
        rfl
      exact norm_ (by first | (simp only [putAll, Act.put, List.setIfInBounds_toArray, List.set_cons_zero, List.set_cons_succ]; done) | (simp only [putAll, Act.put, List.setIfInBounds_toArray, List.set_cons_zero, List.set_cons_succ, i64_w, i32_w]; done) | (simp only [putAll, Act.put, List.setIfInBounds_toArray, List.set_cons_zero, List.set_cons_succ, i64_w, i32_w]; rfl)) (hCont (gb192) _ ⟨hHeld, (by (with_reducible repeat (first | refine blk_drewN ?_ _ | refine blk_drew ?_ | refine blk_alloc ?_ _)); exact BK155.out), (by (with_reducible repeat (first | refine blk_drewN ?_ _ | refine blk_drew ?_ | refine blk_alloc ?_ _)); exact BK181.out), (by (with_reducible repeat (first | refine blk_drewN ?_ _ | refine blk_drew ?_ | refine blk_alloc ?_ _)); exact BK192.out), GW192.out, GE192.out, NB155_192.out, NB192_155.out, NB181_192.out, NB192_181.out, (by repeat (first | (with_reducible first | exact HB.out | apply below_alloc | apply pw_below_drewN | apply below_drew1 | refine below_set ?_ GE155.out | refine below_set ?_ GE181.out | refine below_set ?_ GE192.out) | exact HB.out))⟩)
  rintro gb192 w24 ⟨hS_, h0_, h1_, h2_, h3_, h4_, h5_, h6_, h7_, h8_, h9_⟩
  have n0_ : Aside0 (w24.heap[gb155]? = some (.cells #[.int .u32 a0_0, .bool a0_1] 34 (0, 0))) := ⟨h0_⟩
  have n1_ : Aside0 (w24.heap[gb181]? = some (.cells #[.int .u32 t172, .int .u32 t173, .int .u32 t174, .int .u32 t175, .int .u32 t176, .int .u32 t177, .int .u32 t178, .int .u32 t179] 61 (0, 0))) := ⟨h1_⟩
  have n2_ : Aside0 (w24.heap[gb192]? = some (.cells #[.int .u32 0, .int .u32 0, .int .u32 0, .int .u32 0, .int .u32 0, .int .u32 0, .int .u32 0, .int .u32 0] 61 (0, 0))) := ⟨h2_⟩
  have n3_ : Aside0 (w.heap.size ≤ gb192) := ⟨h3_⟩
  have n4_ : Aside0 (w.heap.size ≤ gb192) := ⟨h4_⟩
  have n5_ : Aside0 (gb155 ≠ gb192) := ⟨h5_⟩
  have n6_ : Aside0 (gb192 ≠ gb155) := ⟨h6_⟩
  have n7_ : Aside0 (gb181 ≠ gb192) := ⟨h7_⟩
  have n8_ : Aside0 (gb192 ≠ gb181) := ⟨h8_⟩
  have n9_ : Aside0 (Below w.heap.size w w24) := ⟨h9_⟩
  clear BK155
  clear BK181
  clear HB
  clear h0_ h1_ h2_ h3_ h4_ h5_ h6_ h7_ h8_ h9_
  have BK155 := n0_
  have BK181 := n1_
  have BK192 := n2_
  have GW192 := n3_
  have GE192 := n4_
  have NB155_192 := n5_
  have NB192_155 := n6_
  have NB181_192 := n7_
  have NB192_181 := n8_
  have HB := n9_
  clear n0_ n1_ n2_ n3_ n4_ n5_ n6_ n7_ n8_ n9_
  have hHeld : w24.cell? ⟨gb181, 0, none⟩ = some (.int .u32 t172) ∧ w24.cell? ⟨gb181, 1, none⟩ = some (.int .u32 t173) ∧ w24.cell? ⟨gb181, 2, none⟩ = some (.int .u32 t174) ∧ w24.cell? ⟨gb181, 3, none⟩ = some (.int .u32 t175) ∧ w24.cell? ⟨gb181, 4, none⟩ = some (.int .u32 t176) ∧ w24.cell? ⟨gb181, 5, none⟩ = some (.int .u32 t177) ∧ w24.cell? ⟨gb181, 6, none⟩ = some (.int .u32 t178) ∧ w24.cell? ⟨gb181, 7, none⟩ = some (.int .u32 t179) ∧ w24.cell? ⟨gb155, 0, none⟩ = some (.int .u32 a0_0) ∧ w24.cell? ⟨gb155, 1, none⟩ = some (.bool a0_1) := hS_
  refine norm_ (a' := ?_) ?_ ?_
  rotate_left
  · simp only [putAll, Act.put, List.setIfInBounds_toArray, List.set_cons_zero, List.set_cons_succ]
    rfl
  refine one_ (i := 8) (N := none) #[true, true, true, true, true, true, true, true, true, false] rfl rfl (one_of HT_.out (by kernel_rfl)) (by decide) (fun K hK => ?_)
  have hs25 : w24.cell? ⟨gb192, 0, none⟩ = some (.int .u32 0) := (blk_cell BK192.out 0).trans rfl
  have hfs25 := blk_frozen BK192.out 0
  have hns25_0 := NB155_192.out
  have hns25_1 := NB181_192.out
  have hms25_0 := NB192_155.out
  have hms25_1 := NB192_181.out
  have hs26 : w24.cell? ⟨gb192, 1, none⟩ = some (.int .u32 0) := (blk_cell BK192.out 1).trans rfl
  have hfs26 := blk_frozen BK192.out 1
  have hns26_0 := NB155_192.out
  have hns26_1 := NB181_192.out
  have hms26_0 := NB192_155.out
  have hms26_1 := NB192_181.out
  have hs27 : w24.cell? ⟨gb192, 2, none⟩ = some (.int .u32 0) := (blk_cell BK192.out 2).trans rfl
  have hfs27 := blk_frozen BK192.out 2
  have hns27_0 := NB155_192.out
  have hns27_1 := NB181_192.out
  have hms27_0 := NB192_155.out
  have hms27_1 := NB192_181.out
  have hs28 : w24.cell? ⟨gb192, 3, none⟩ = some (.int .u32 0) := (blk_cell BK192.out 3).trans rfl
  have hfs28 := blk_frozen BK192.out 3
  have hns28_0 := NB155_192.out
  have hns28_1 := NB181_192.out
  have hms28_0 := NB192_155.out
  have hms28_1 := NB192_181.out
  have hs29 : w24.cell? ⟨gb192, 4, none⟩ = some (.int .u32 0) := (blk_cell BK192.out 4).trans rfl
  have hfs29 := blk_frozen BK192.out 4
  have hns29_0 := NB155_192.out
  have hns29_1 := NB181_192.out
  have hms29_0 := NB192_155.out
  have hms29_1 := NB192_181.out
  have hs30 : w24.cell? ⟨gb192, 5, none⟩ = some (.int .u32 0) := (blk_cell BK192.out 5).trans rfl
  have hfs30 := blk_frozen BK192.out 5
  have hns30_0 := NB155_192.out
  have hns30_1 := NB181_192.out
  have hms30_0 := NB192_155.out
  have hms30_1 := NB192_181.out
  have hs31 : w24.cell? ⟨gb192, 6, none⟩ = some (.int .u32 0) := (blk_cell BK192.out 6).trans rfl
  have hfs31 := blk_frozen BK192.out 6
  have hns31_0 := NB155_192.out
  have hns31_1 := NB181_192.out
  have hms31_0 := NB192_155.out
  have hms31_1 := NB192_181.out
  have hs32 : w24.cell? ⟨gb192, 7, none⟩ = some (.int .u32 0) := (blk_cell BK192.out 7).trans rfl
  have hfs32 := blk_frozen BK192.out 7
  have hns32_0 := NB155_192.out
  have hns32_1 := NB181_192.out
  have hms32_0 := NB192_155.out
  have hms32_1 := NB192_181.out
  refine skip_ (w1 := ?_) (by rfl) rfl ?_ ?_
  rotate_left
  · go_simp
    rfl
  refine hK.out _ _ ⟨((cell_far (p := ⟨gb192, _, none⟩) NB181_192.out _).trans (((cell_far (p := ⟨gb192, _, none⟩) NB181_192.out _).trans (((cell_far (p := ⟨gb192, _, none⟩) NB181_192.out _).trans (((cell_far (p := ⟨gb192, _, none⟩) NB181_192.out _).trans (((cell_far (p := ⟨gb192, _, none⟩) NB181_192.out _).trans (((cell_far (p := ⟨gb192, _, none⟩) NB181_192.out _).trans (((cell_far (p := ⟨gb192, _, none⟩) NB181_192.out _).trans (((cell_far (p := ⟨gb192, _, none⟩) NB181_192.out _).trans (hHeld.1)))))))))))))))), ((cell_far (p := ⟨gb192, _, none⟩) NB181_192.out _).trans (((cell_far (p := ⟨gb192, _, none⟩) NB181_192.out _).trans (((cell_far (p := ⟨gb192, _, none⟩) NB181_192.out _).trans (((cell_far (p := ⟨gb192, _, none⟩) NB181_192.out _).trans (((cell_far (p := ⟨gb192, _, none⟩) NB181_192.out _).trans (((cell_far (p := ⟨gb192, _, none⟩) NB181_192.out _).trans (((cell_far (p := ⟨gb192, _, none⟩) NB181_192.out _).trans (((cell_far (p := ⟨gb192, _, none⟩) NB181_192.out _).trans (hHeld.2.1)))))))))))))))), ((cell_far (p := ⟨gb192, _, none⟩) NB181_192.out _).trans (((cell_far (p := ⟨gb192, _, none⟩) NB181_192.out _).trans (((cell_far (p := ⟨gb192, _, none⟩) NB181_192.out _).trans (((cell_far (p := ⟨gb192, _, none⟩) NB181_192.out _).trans (((cell_far (p := ⟨gb192, _, none⟩) NB181_192.out _).trans (((cell_far (p := ⟨gb192, _, none⟩) NB181_192.out _).trans (((cell_far (p := ⟨gb192, _, none⟩) NB181_192.out _).trans (((cell_far (p := ⟨gb192, _, none⟩) NB181_192.out _).trans (hHeld.2.2.1)))))))))))))))), ((cell_far (p := ⟨gb192, _, none⟩) NB181_192.out _).trans (((cell_far (p := ⟨gb192, _, none⟩) NB181_192.out _).trans (((cell_far (p := ⟨gb192, _, none⟩) NB181_192.out _).trans (((cell_far (p := ⟨gb192, _, none⟩) NB181_192.out _).trans (((cell_far (p := ⟨gb192, _, none⟩) NB181_192.out _).trans (((cell_far (p := ⟨gb192, _, none⟩) NB181_192.out _).trans (((cell_far (p := ⟨gb192, _, none⟩) NB181_192.out _).trans (((cell_far (p := ⟨gb192, _, none⟩) NB181_192.out _).trans (hHeld.2.2.2.1)))))))))))))))), ((cell_far (p := ⟨gb192, _, none⟩) NB181_192.out _).trans (((cell_far (p := ⟨gb192, _, none⟩) NB181_192.out _).trans (((cell_far (p := ⟨gb192, _, none⟩) NB181_192.out _).trans (((cell_far (p := ⟨gb192, _, none⟩) NB181_192.out _).trans (((cell_far (p := ⟨gb192, _, none⟩) NB181_192.out _).trans (((cell_far (p := ⟨gb192, _, none⟩) NB181_192.out _).trans (((cell_far (p := ⟨gb192, _, none⟩) NB181_192.out _).trans (((cell_far (p := ⟨gb192, _, none⟩) NB181_192.out _).trans (hHeld.2.2.2.2.1)))))))))))))))), ((cell_far (p := ⟨gb192, _, none⟩) NB181_192.out _).trans (((cell_far (p := ⟨gb192, _, none⟩) NB181_192.out _).trans (((cell_far (p := ⟨gb192, _, none⟩) NB181_192.out _).trans (((cell_far (p := ⟨gb192, _, none⟩) NB181_192.out _).trans (((cell_far (p := ⟨gb192, _, none⟩) NB181_192.out _).trans (((cell_far (p := ⟨gb192, _, none⟩) NB181_192.out _).trans (((cell_far (p := ⟨gb192, _, none⟩) NB181_192.out _).trans (((cell_far (p := ⟨gb192, _, none⟩) NB181_192.out _).trans (hHeld.2.2.2.2.2.1)))))))))))))))), ((cell_far (p := ⟨gb192, _, none⟩) NB181_192.out _).trans (((cell_far (p := ⟨gb192, _, none⟩) NB181_192.out _).trans (((cell_far (p := ⟨gb192, _, none⟩) NB181_192.out _).trans (((cell_far (p := ⟨gb192, _, none⟩) NB181_192.out _).trans (((cell_far (p := ⟨gb192, _, none⟩) NB181_192.out _).trans (((cell_far (p := ⟨gb192, _, none⟩) NB181_192.out _).trans (((cell_far (p := ⟨gb192, _, none⟩) NB181_192.out _).trans (((cell_far (p := ⟨gb192, _, none⟩) NB181_192.out _).trans (hHeld.2.2.2.2.2.2.1)))))))))))))))), ((cell_far (p := ⟨gb192, _, none⟩) NB181_192.out _).trans (((cell_far (p := ⟨gb192, _, none⟩) NB181_192.out _).trans (((cell_far (p := ⟨gb192, _, none⟩) NB181_192.out _).trans (((cell_far (p := ⟨gb192, _, none⟩) NB181_192.out _).trans (((cell_far (p := ⟨gb192, _, none⟩) NB181_192.out _).trans (((cell_far (p := ⟨gb192, _, none⟩) NB181_192.out _).trans (((cell_far (p := ⟨gb192, _, none⟩) NB181_192.out _).trans (((cell_far (p := ⟨gb192, _, none⟩) NB181_192.out _).trans (hHeld.2.2.2.2.2.2.2.1)))))))))))))))), ((cell_far (p := ⟨gb192, _, none⟩) NB155_192.out _).trans (((cell_far (p := ⟨gb192, _, none⟩) NB155_192.out _).trans (((cell_far (p := ⟨gb192, _, none⟩) NB155_192.out _).trans (((cell_far (p := ⟨gb192, _, none⟩) NB155_192.out _).trans (((cell_far (p := ⟨gb192, _, none⟩) NB155_192.out _).trans (((cell_far (p := ⟨gb192, _, none⟩) NB155_192.out _).trans (((cell_far (p := ⟨gb192, _, none⟩) NB155_192.out _).trans (((cell_far (p := ⟨gb192, _, none⟩) NB155_192.out _).trans (hHeld.2.2.2.2.2.2.2.2.1)))))))))))))))), ((cell_far (p := ⟨gb192, _, none⟩) NB155_192.out _).trans (((cell_far (p := ⟨gb192, _, none⟩) NB155_192.out _).trans (((cell_far (p := ⟨gb192, _, none⟩) NB155_192.out _).trans (((cell_far (p := ⟨gb192, _, none⟩) NB155_192.out _).trans (((cell_far (p := ⟨gb192, _, none⟩) NB155_192.out _).trans (((cell_far (p := ⟨gb192, _, none⟩) NB155_192.out _).trans (((cell_far (p := ⟨gb192, _, none⟩) NB155_192.out _).trans (((cell_far (p := ⟨gb192, _, none⟩) NB155_192.out _).trans (hHeld.2.2.2.2.2.2.2.2.2))))))))))))))))⟩ (fun hHeld => ?_)
  clear hK K
  refine pure_ (i := 9) (N := some 13) (v := ?_) (a' := ?_) #[true, true, true, true, true, true, true, true, true, true] rfl rfl (any_of HT_.out (by kernel_rfl)) (fun _ _ _ h => h) (Or.inl ⟨by rfl, ?_⟩) ?_ ?_
  rotate_left
  · intro w'
    go_simp
    with_reducible rfl
  rotate_left
  · simp only [Act.put, List.setIfInBounds_toArray, List.set_cons_zero, List.set_cons_succ, i64_w, i32_w]
    rfl
  refine done_ (done_of HT_.out (by kernel_rfl)) ?_
  (try simp only [errW_none, errW_some])
  have hnb33 := NB192_155.out
  have hnc33 := NB155_192.out
  have hnb34 := NB192_181.out
  have hnc34 := NB181_192.out
  have hcz35_0 : w24.cell? ⟨gb192, 0, none⟩ = some (.int .u32 0) := (blk_cell BK192.out 0).trans rfl
  have hcz35_1 : w24.cell? ⟨gb192, 1, none⟩ = some (.int .u32 0) := (blk_cell BK192.out 1).trans rfl
  have hcz35_2 : w24.cell? ⟨gb192, 2, none⟩ = some (.int .u32 0) := (blk_cell BK192.out 2).trans rfl
  have hcz35_3 : w24.cell? ⟨gb192, 3, none⟩ = some (.int .u32 0) := (blk_cell BK192.out 3).trans rfl
  have hcz35_4 : w24.cell? ⟨gb192, 4, none⟩ = some (.int .u32 0) := (blk_cell BK192.out 4).trans rfl
  have hcz35_5 : w24.cell? ⟨gb192, 5, none⟩ = some (.int .u32 0) := (blk_cell BK192.out 5).trans rfl
  have hcz35_6 : w24.cell? ⟨gb192, 6, none⟩ = some (.int .u32 0) := (blk_cell BK192.out 6).trans rfl
  have hcz35_7 : w24.cell? ⟨gb192, 7, none⟩ = some (.int .u32 0) := (blk_cell BK192.out 7).trans rfl
  have hfz35_0 := blk_frozen BK192.out 0
  have hfz35_1 := blk_frozen BK192.out 1
  have hfz35_2 := blk_frozen BK192.out 2
  have hfz35_3 := blk_frozen BK192.out 3
  have hfz35_4 := blk_frozen BK192.out 4
  have hfz35_5 := blk_frozen BK192.out 5
  have hfz35_6 := blk_frozen BK192.out 6
  have hfz35_7 := blk_frozen BK192.out 7
  try go_wp2_with (first | ((with_reducible refine gate_callee (f := 29) rfl ?_); refine goesL_ (some 37) rfl rfl Tryd.func29 (by kernel_rfl) rfl #[.agg #[.int .u32 t183, .int .u32 t184, .int .u32 t185, .int .u32 t186, .int .u32 t187, .int .u32 t188, .int .u32 t189, .int .u32 t190], .bool false] rfl (by (try simp only [List.map_toArray, List.map_cons, List.map_nil]); first | done | rfl | (simp only [List.length_drop, List.length_take]; rfl)) ?_; (with_reducible refine (arrearsref03_Word.calls t183 t184 t185 t186 t187 t188 t189 t190 false t193 _ A10.out).mono ?_); rintro e w36 ⟨rfl, hb⟩; refine ⟨_, rfl, ?_⟩; have n0_ := Aside0.mk (blk_below (g := gb155) (o := .cells #[.int .u32 a0_0, .bool a0_1] 34 (0, 0)) (by (with_reducible repeat (first | refine blk_drewN ?_ _ | refine blk_drew ?_ | refine blk_alloc ?_ _)); refine blk_far ?_ NB155_192.out _; (with_reducible repeat (first | refine blk_drewN ?_ _ | refine blk_drew ?_ | refine blk_alloc ?_ _)); refine blk_far ?_ NB155_192.out _; (with_reducible repeat (first | refine blk_drewN ?_ _ | refine blk_drew ?_ | refine blk_alloc ?_ _)); refine blk_far ?_ NB155_192.out _; (with_reducible repeat (first | refine blk_drewN ?_ _ | refine blk_drew ?_ | refine blk_alloc ?_ _)); refine blk_far ?_ NB155_192.out _; (with_reducible repeat (first | refine blk_drewN ?_ _ | refine blk_drew ?_ | refine blk_alloc ?_ _)); refine blk_far ?_ NB155_192.out _; (with_reducible repeat (first | refine blk_drewN ?_ _ | refine blk_drew ?_ | refine blk_alloc ?_ _)); refine blk_far ?_ NB155_192.out _; (with_reducible repeat (first | refine blk_drewN ?_ _ | refine blk_drew ?_ | refine blk_alloc ?_ _)); refine blk_far ?_ NB155_192.out _; (with_reducible repeat (first | refine blk_drewN ?_ _ | refine blk_drew ?_ | refine blk_alloc ?_ _)); refine blk_far ?_ NB155_192.out _; (with_reducible repeat (first | refine blk_drewN ?_ _ | refine blk_drew ?_ | refine blk_alloc ?_ _)); exact BK155.out) hb); have n1_ := Aside0.mk (blk_below (g := gb181) (o := .cells #[.int .u32 t172, .int .u32 t173, .int .u32 t174, .int .u32 t175, .int .u32 t176, .int .u32 t177, .int .u32 t178, .int .u32 t179] 61 (0, 0)) (by (with_reducible repeat (first | refine blk_drewN ?_ _ | refine blk_drew ?_ | refine blk_alloc ?_ _)); refine blk_far ?_ NB181_192.out _; (with_reducible repeat (first | refine blk_drewN ?_ _ | refine blk_drew ?_ | refine blk_alloc ?_ _)); refine blk_far ?_ NB181_192.out _; (with_reducible repeat (first | refine blk_drewN ?_ _ | refine blk_drew ?_ | refine blk_alloc ?_ _)); refine blk_far ?_ NB181_192.out _; (with_reducible repeat (first | refine blk_drewN ?_ _ | refine blk_drew ?_ | refine blk_alloc ?_ _)); refine blk_far ?_ NB181_192.out _; (with_reducible repeat (first | refine blk_drewN ?_ _ | refine blk_drew ?_ | refine blk_alloc ?_ _)); refine blk_far ?_ NB181_192.out _; (with_reducible repeat (first | refine blk_drewN ?_ _ | refine blk_drew ?_ | refine blk_alloc ?_ _)); refine blk_far ?_ NB181_192.out _; (with_reducible repeat (first | refine blk_drewN ?_ _ | refine blk_drew ?_ | refine blk_alloc ?_ _)); refine blk_far ?_ NB181_192.out _; (with_reducible repeat (first | refine blk_drewN ?_ _ | refine blk_drew ?_ | refine blk_alloc ?_ _)); refine blk_far ?_ NB181_192.out _; (with_reducible repeat (first | refine blk_drewN ?_ _ | refine blk_drew ?_ | refine blk_alloc ?_ _)); exact BK181.out) hb); have n2_ := Aside0.mk (blk_below (g := gb192) (o := .cells #[.int .u32 t183, .int .u32 t184, .int .u32 t185, .int .u32 t186, .int .u32 t187, .int .u32 t188, .int .u32 t189, .int .u32 t190] 61 (0, 0)) (by (with_reducible repeat (first | refine blk_drewN ?_ _ | refine blk_drew ?_ | refine blk_alloc ?_ _)); refine blk_put (cs := #[.int .u32 t183, .int .u32 t184, .int .u32 t185, .int .u32 t186, .int .u32 t187, .int .u32 t188, .int .u32 t189, .int .u32 0]) ?_ 7 _ rfl; (with_reducible repeat (first | refine blk_drewN ?_ _ | refine blk_drew ?_ | refine blk_alloc ?_ _)); refine blk_put (cs := #[.int .u32 t183, .int .u32 t184, .int .u32 t185, .int .u32 t186, .int .u32 t187, .int .u32 t188, .int .u32 0, .int .u32 0]) ?_ 6 _ rfl; (with_reducible repeat (first | refine blk_drewN ?_ _ | refine blk_drew ?_ | refine blk_alloc ?_ _)); refine blk_put (cs := #[.int .u32 t183, .int .u32 t184, .int .u32 t185, .int .u32 t186, .int .u32 t187, .int .u32 0, .int .u32 0, .int .u32 0]) ?_ 5 _ rfl; (with_reducible repeat (first | refine blk_drewN ?_ _ | refine blk_drew ?_ | refine blk_alloc ?_ _)); refine blk_put (cs := #[.int .u32 t183, .int .u32 t184, .int .u32 t185, .int .u32 t186, .int .u32 0, .int .u32 0, .int .u32 0, .int .u32 0]) ?_ 4 _ rfl; (with_reducible repeat (first | refine blk_drewN ?_ _ | refine blk_drew ?_ | refine blk_alloc ?_ _)); refine blk_put (cs := #[.int .u32 t183, .int .u32 t184, .int .u32 t185, .int .u32 0, .int .u32 0, .int .u32 0, .int .u32 0, .int .u32 0]) ?_ 3 _ rfl; (with_reducible repeat (first | refine blk_drewN ?_ _ | refine blk_drew ?_ | refine blk_alloc ?_ _)); refine blk_put (cs := #[.int .u32 t183, .int .u32 t184, .int .u32 0, .int .u32 0, .int .u32 0, .int .u32 0, .int .u32 0, .int .u32 0]) ?_ 2 _ rfl; (with_reducible repeat (first | refine blk_drewN ?_ _ | refine blk_drew ?_ | refine blk_alloc ?_ _)); refine blk_put (cs := #[.int .u32 t183, .int .u32 0, .int .u32 0, .int .u32 0, .int .u32 0, .int .u32 0, .int .u32 0, .int .u32 0]) ?_ 1 _ rfl; (with_reducible repeat (first | refine blk_drewN ?_ _ | refine blk_drew ?_ | refine blk_alloc ?_ _)); refine blk_put (cs := #[.int .u32 0, .int .u32 0, .int .u32 0, .int .u32 0, .int .u32 0, .int .u32 0, .int .u32 0, .int .u32 0]) ?_ 0 _ rfl; (with_reducible repeat (first | refine blk_drewN ?_ _ | refine blk_drew ?_ | refine blk_alloc ?_ _)); exact BK192.out) hb); have n3_ := Aside0.mk (below_step (by repeat (first | (with_reducible first | exact HB.out | apply below_alloc | apply pw_below_drewN | apply below_drew1 | refine below_set ?_ GE155.out | refine below_set ?_ GE181.out | refine below_set ?_ GE192.out) | exact HB.out)) hb); clear BK155; clear BK181; clear BK192; clear HB; have BK155 := n0_; have BK181 := n1_; have BK192 := n2_; have HB := n3_; clear n0_ n1_ n2_ n3_; (try clear hb); (try clear hb2); (try clear hk); (try clear hi)))
  go_ret2
  exact ⟨by first | rfl | (simp [errW_none, errW_some] <;> rfl) | (simp [*, errW_none, errW_some] <;> rfl), by repeat (first | (with_reducible first | exact HB.out | apply below_alloc | apply pw_below_drewN | apply below_drew1 | refine below_set ?_ GE155.out | refine below_set ?_ GE181.out | refine below_set ?_ GE192.out) | exact HB.out)⟩

end Go.Proofs.YtldicnmpegkicaaDoor.PYieldReckons
