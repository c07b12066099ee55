-- Printed by a wrapper of this session's round the kit's print.py; Lean checks it.
import Derived.Test.YtbgjeelbbmcpeaaDoorPDateTurnsx0
import Derived.Test.YtbgjeelbbmcpeaaDoorPDateTurnsx4
namespace Go.Proofs.YtbgjeelbbmcpeaaDoor.PDateTurns
open Go.RowKit Go.Proofs.YtbgjeelbbmcpeaaDoorW.PrintWords Go.Proofs.YtbgjeelbbmcpeaaDoorW.PrintLast Go.Proofs.YtbgjeelbbmcpeaaDoorW.PrintMore
attribute [local go_sem] max2_int min2_int max_two min_two max_three min_three max_four min_four   -- for this text's walks alone
set_option linter.unusedVariables false
set_option linter.unusedSimpArgs false

/-! ### arrearsref05_Text: function 29 -/
def arrearsref05_Text.f (k : Nat) (a0_0 : Int) (a0_1 : Int) (a0_2 : Int) : Option (ByteArray) := (arrearsref05_two.f k (wrap64 (Int.tdiv a0_0 100))).bind fun t153 => ((arrearsref05_two.f k a0_0).bind fun t154 => (if t153.size + t154.size ≤ 9223372036854775807 then (if (t153 ++ t154).size + 1 ≤ 9223372036854775807 then ((arrearsref05_two.f k a0_1).bind fun t155 => (if ((t153 ++ t154) ++ (⟨#[45]⟩ : ByteArray)).size + t155.size ≤ 9223372036854775807 then (if (((t153 ++ t154) ++ (⟨#[45]⟩ : ByteArray)) ++ t155).size + 1 ≤ 9223372036854775807 then ((arrearsref05_two.f k a0_2).bind fun t156 => (if ((((t153 ++ t154) ++ (⟨#[45]⟩ : ByteArray)) ++ t155) ++ (⟨#[45]⟩ : ByteArray)).size + t156.size ≤ 9223372036854775807 then (some (((((t153 ++ t154) ++ (⟨#[45]⟩ : ByteArray)) ++ t155) ++ (⟨#[45]⟩ : ByteArray)) ++ t156)) else (none))) else (none)) else (none))) else (none)) else (none)))
theorem arrearsref05_Text.mono : ∀ a0 a1 a2 k, LeO (arrearsref05_Text.f k a0 a1 a2) (arrearsref05_Text.f (k + 1) a0 a1 a2) := by
  intro a0 a1 a2 k
  unfold arrearsref05_Text.f
  repeat' first
      | (with_reducible exact arrearsref05_two.mono _ _)
      | (with_reducible exact LeO.refl _)
      | (with_reducible exact LeO.none _)
      | (with_reducible refine LeO.ite ?_ ?_)
      | (with_reducible refine LeO.bind ?_ (fun _ => ?_))
      | exact arrearsref05_two.mono _ _
      | exact LeO.none _
      | refine LeO.ite ?_ ?_
      | refine LeO.bind ?_ (fun _ => ?_)
set_option maxHeartbeats 8000000 in
set_option maxRecDepth 100000 in
theorem arrearsref05_Text.calls (k : Nat) (a0_0 : Int) (a0_1 : Int) (a0_2 : Int) (r : ByteArray) (w : World) (h : arrearsref05_Text.f k a0_0 a0_1 a0_2 = some r) :
    Calls Tryd.prog 29 #[.agg #[.int .i64 a0_0, .int .i64 a0_1, .int .i64 a0_2]] w fun e w' => e = .returned (.string r) ∧ Below w.heap.size w w' := by
  have hu26 := Tryd.underlying26
  have HB := Aside0.mk (Below.refl w.heap.size w)
  have H : ((arrearsref05_two.f k (wrap64 (Int.tdiv a0_0 100))).bind fun t153 => ((arrearsref05_two.f k a0_0).bind fun t154 => (if t153.size + t154.size ≤ 9223372036854775807 then (if (t153 ++ t154).size + 1 ≤ 9223372036854775807 then ((arrearsref05_two.f k a0_1).bind fun t155 => (if ((t153 ++ t154) ++ (⟨#[45]⟩ : ByteArray)).size + t155.size ≤ 9223372036854775807 then (if (((t153 ++ t154) ++ (⟨#[45]⟩ : ByteArray)) ++ t155).size + 1 ≤ 9223372036854775807 then ((arrearsref05_two.f k a0_2).bind fun t156 => (if ((((t153 ++ t154) ++ (⟨#[45]⟩ : ByteArray)) ++ t155) ++ (⟨#[45]⟩ : ByteArray)).size + t156.size ≤ 9223372036854775807 then (some (((((t153 ++ t154) ++ (⟨#[45]⟩ : ByteArray)) ++ t155) ++ (⟨#[45]⟩ : ByteArray)) ++ t156)) else (none))) else (none)) else (none))) else (none)) else (none)))) = some r := h
  clear h
  replace H := Option.bind_eq_some_iff.mp H
  obtain ⟨t153, A20, H⟩ := H
  replace H : ((arrearsref05_two.f k a0_0).bind fun t154 => (if t153.size + t154.size ≤ 9223372036854775807 then (if (t153 ++ t154).size + 1 ≤ 9223372036854775807 then ((arrearsref05_two.f k a0_1).bind fun t155 => (if ((t153 ++ t154) ++ (⟨#[45]⟩ : ByteArray)).size + t155.size ≤ 9223372036854775807 then (if (((t153 ++ t154) ++ (⟨#[45]⟩ : ByteArray)) ++ t155).size + 1 ≤ 9223372036854775807 then ((arrearsref05_two.f k a0_2).bind fun t156 => (if ((((t153 ++ t154) ++ (⟨#[45]⟩ : ByteArray)) ++ t155) ++ (⟨#[45]⟩ : ByteArray)).size + t156.size ≤ 9223372036854775807 then (some (((((t153 ++ t154) ++ (⟨#[45]⟩ : ByteArray)) ++ t155) ++ (⟨#[45]⟩ : ByteArray)) ++ t156)) else (none))) else (none)) else (none))) else (none)) else (none))) = some r := H
  have A2 := Aside0.mk A20
  clear A20
  replace H := Option.bind_eq_some_iff.mp H
  obtain ⟨t154, A30, H⟩ := H
  replace H : (if t153.size + t154.size ≤ 9223372036854775807 then (if (t153 ++ t154).size + 1 ≤ 9223372036854775807 then ((arrearsref05_two.f k a0_1).bind fun t155 => (if ((t153 ++ t154) ++ (⟨#[45]⟩ : ByteArray)).size + t155.size ≤ 9223372036854775807 then (if (((t153 ++ t154) ++ (⟨#[45]⟩ : ByteArray)) ++ t155).size + 1 ≤ 9223372036854775807 then ((arrearsref05_two.f k a0_2).bind fun t156 => (if ((((t153 ++ t154) ++ (⟨#[45]⟩ : ByteArray)) ++ t155) ++ (⟨#[45]⟩ : ByteArray)).size + t156.size ≤ 9223372036854775807 then (some (((((t153 ++ t154) ++ (⟨#[45]⟩ : ByteArray)) ++ t155) ++ (⟨#[45]⟩ : ByteArray)) ++ t156)) else (none))) else (none)) else (none))) else (none)) else (none)) = some r := H
  have A3 := Aside0.mk A30
  clear A30
  by_cases c4 : t153.size + t154.size ≤ 9223372036854775807
  · rw [if_pos c4] at H
    have c4b0 := eq_true c4
    have c4b1 : decide (t153.size + t154.size ≤ 9223372036854775807) = true := decide_eq_true c4
    try have c4b2 : (9223372036854775807 < t153.size + t154.size) = False := eq_false (Nat.not_lt.2 c4)
    by_cases c5 : (t153 ++ t154).size + 1 ≤ 9223372036854775807
    · rw [if_pos c5] at H
      have c5b0 := eq_true c5
      have c5b1 : decide ((t153 ++ t154).size + 1 ≤ 9223372036854775807) = true := decide_eq_true c5
      try have c5b2 : (9223372036854775807 < (t153 ++ t154).size + 1) = False := eq_false (Nat.not_lt.2 c5)
      try have c5b3 : (9223372036854775807 < t153.size + t154.size + 1) = False := eq_false (by have q_ := c5; simp only [ByteArray.size_append] at q_; exact Nat.not_lt.2 q_)
      replace H := Option.bind_eq_some_iff.mp H
      obtain ⟨t155, A60, H⟩ := H
      replace H : (if ((t153 ++ t154) ++ (⟨#[45]⟩ : ByteArray)).size + t155.size ≤ 9223372036854775807 then (if (((t153 ++ t154) ++ (⟨#[45]⟩ : ByteArray)) ++ t155).size + 1 ≤ 9223372036854775807 then ((arrearsref05_two.f k a0_2).bind fun t156 => (if ((((t153 ++ t154) ++ (⟨#[45]⟩ : ByteArray)) ++ t155) ++ (⟨#[45]⟩ : ByteArray)).size + t156.size ≤ 9223372036854775807 then (some (((((t153 ++ t154) ++ (⟨#[45]⟩ : ByteArray)) ++ t155) ++ (⟨#[45]⟩ : ByteArray)) ++ t156)) else (none))) else (none)) else (none)) = some r := H
      have A6 := Aside0.mk A60
      clear A60
      by_cases c7 : ((t153 ++ t154) ++ (⟨#[45]⟩ : ByteArray)).size + t155.size ≤ 9223372036854775807
      · rw [if_pos c7] at H
        have c7b0 := eq_true c7
        have c7b1 : decide (((t153 ++ t154) ++ (⟨#[45]⟩ : ByteArray)).size + t155.size ≤ 9223372036854775807) = true := decide_eq_true c7
        try have c7b2 : (9223372036854775807 < ((t153 ++ t154) ++ (⟨#[45]⟩ : ByteArray)).size + t155.size) = False := eq_false (Nat.not_lt.2 c7)
        try have c7b3 : (9223372036854775807 < t153.size + t154.size + 1 + t155.size) = False := eq_false (by have q_ := c7; simp only [ByteArray.size_append, show (⟨#[45]⟩ : ByteArray).size = 1 from rfl] at q_; exact Nat.not_lt.2 q_)
        by_cases c8 : (((t153 ++ t154) ++ (⟨#[45]⟩ : ByteArray)) ++ t155).size + 1 ≤ 9223372036854775807
        · rw [if_pos c8] at H
          have c8b0 := eq_true c8
          have c8b1 : decide ((((t153 ++ t154) ++ (⟨#[45]⟩ : ByteArray)) ++ t155).size + 1 ≤ 9223372036854775807) = true := decide_eq_true c8
          try have c8b2 : (9223372036854775807 < (((t153 ++ t154) ++ (⟨#[45]⟩ : ByteArray)) ++ t155).size + 1) = False := eq_false (Nat.not_lt.2 c8)
          try have c8b3 : (9223372036854775807 < t153.size + t154.size + 1 + t155.size + 1) = False := eq_false (by have q_ := c8; simp only [ByteArray.size_append, show (⟨#[45]⟩ : ByteArray).size = 1 from rfl] at q_; exact Nat.not_lt.2 q_)
          replace H := Option.bind_eq_some_iff.mp H
          obtain ⟨t156, A90, H⟩ := H
          replace H : (if ((((t153 ++ t154) ++ (⟨#[45]⟩ : ByteArray)) ++ t155) ++ (⟨#[45]⟩ : ByteArray)).size + t156.size ≤ 9223372036854775807 then (some (((((t153 ++ t154) ++ (⟨#[45]⟩ : ByteArray)) ++ t155) ++ (⟨#[45]⟩ : ByteArray)) ++ t156)) else (none)) = some r := H
          have A9 := Aside0.mk A90
          clear A90
          by_cases c10 : ((((t153 ++ t154) ++ (⟨#[45]⟩ : ByteArray)) ++ t155) ++ (⟨#[45]⟩ : ByteArray)).size + t156.size ≤ 9223372036854775807
          · rw [if_pos c10] at H
            have c10b0 := eq_true c10
            have c10b1 : decide (((((t153 ++ t154) ++ (⟨#[45]⟩ : ByteArray)) ++ t155) ++ (⟨#[45]⟩ : ByteArray)).size + t156.size ≤ 9223372036854775807) = true := decide_eq_true c10
            try have c10b2 : (9223372036854775807 < ((((t153 ++ t154) ++ (⟨#[45]⟩ : ByteArray)) ++ t155) ++ (⟨#[45]⟩ : ByteArray)).size + t156.size) = False := eq_false (Nat.not_lt.2 c10)
            try have c10b3 : (9223372036854775807 < t153.size + t154.size + 1 + t155.size + 1 + t156.size) = False := eq_false (by have q_ := c10; simp only [ByteArray.size_append, show (⟨#[45]⟩ : ByteArray).size = 1 from rfl] at q_; exact Nat.not_lt.2 q_)
            obtain rfl := Option.some.inj H
            go_enter Tryd.func29, Tryd.ntmps29
            go_wp2_with (first | ((with_reducible refine gate_dst (N := 1) rfl ?_); refine box_event ?hg (N := 1) ?hd (cs := #[.int .i64 a0_0, .int .i64 a0_1, .int .i64 a0_2]) (t := 26) ?hr ?_; (case hd => rfl); (case hg => rfl); (case hr => first | (go_simp; done) | (go_simp; rfl)); intro gb152 hg w11 hbox hb; have n0_ := Aside0.mk (below_step (by repeat (first | (with_reducible first | exact HB.out | apply below_alloc | apply pw_below_drewN | apply below_drew1) | exact HB.out)) hb); have n1_ := Aside0.mk (hbox); have n2_ := Aside0.mk ((by rw [hg]; exact (below_size (by repeat (first | (with_reducible first | exact HB.out | apply below_alloc | apply pw_below_drewN | apply below_drew1) | exact HB.out))) : w.heap.size ≤ gb152)); have n3_ := Aside0.mk ((by rw [hg]; exact (below_size (by repeat (first | (with_reducible first | exact HB.out | apply below_alloc | apply pw_below_drewN | apply below_drew1) | exact HB.out))) : w.heap.size ≤ gb152)); clear HB; have HB := n0_; have BK152 := n1_; have GW152 := n2_; have GE152 := n3_; clear n0_ n1_ n2_ n3_; clear hb hbox hg; have hcz12_0 : w11.cell? ⟨gb152, 0, none⟩ = some (.int .i64 a0_0) := (blk_cell BK152.out 0).trans rfl; have hcz12_1 : w11.cell? ⟨gb152, 1, none⟩ = some (.int .i64 a0_1) := (blk_cell BK152.out 1).trans rfl; have hcz12_2 : w11.cell? ⟨gb152, 2, none⟩ = some (.int .i64 a0_2) := (blk_cell BK152.out 2).trans rfl; have hfz12_0 := blk_frozen BK152.out 0; have hfz12_1 := blk_frozen BK152.out 1; have hfz12_2 := blk_frozen BK152.out 2) | (go_at_call 35; (with_reducible refine (arrearsref05_two.calls k (wrap64 (Int.tdiv a0_0 100)) t153 _ A2.out).mono ?_); rintro e w' ⟨rfl, ⟨nd, rfl⟩⟩; (try first | exact ⟨rfl, _, World.drewN_drewN _ _ _⟩ | exact ⟨rfl, _, Eq.trans (World.drewN_drewN _ _ _) (congrArg (World.drewN _) (Nat.add_assoc _ _ _))⟩)) | (go_at_call 35; (with_reducible refine (arrearsref05_two.calls k a0_0 t154 _ A3.out).mono ?_); rintro e w' ⟨rfl, ⟨nd, rfl⟩⟩; (try first | exact ⟨rfl, _, World.drewN_drewN _ _ _⟩ | exact ⟨rfl, _, Eq.trans (World.drewN_drewN _ _ _) (congrArg (World.drewN _) (Nat.add_assoc _ _ _))⟩)) | (go_at_call 35; (with_reducible refine (arrearsref05_two.calls k a0_1 t155 _ A6.out).mono ?_); rintro e w' ⟨rfl, ⟨nd, rfl⟩⟩; (try first | exact ⟨rfl, _, World.drewN_drewN _ _ _⟩ | exact ⟨rfl, _, Eq.trans (World.drewN_drewN _ _ _) (congrArg (World.drewN _) (Nat.add_assoc _ _ _))⟩)) | (go_at_call 35; (with_reducible refine (arrearsref05_two.calls k a0_2 t156 _ A9.out).mono ?_); rintro e w' ⟨rfl, ⟨nd, rfl⟩⟩; (try first | exact ⟨rfl, _, World.drewN_drewN _ _ _⟩ | exact ⟨rfl, _, Eq.trans (World.drewN_drewN _ _ _) (congrArg (World.drewN _) (Nat.add_assoc _ _ _))⟩)))
            repeat (go_quiet (first | ((with_reducible refine gate_dst (N := 1) rfl ?_); refine box_event ?hg (N := 1) ?hd (cs := #[.int .i64 a0_0, .int .i64 a0_1, .int .i64 a0_2]) (t := 26) ?hr ?_; (case hd => rfl); (case hg => rfl); (case hr => first | (go_simp; done) | (go_simp; rfl)); intro gb152 hg w11 hbox hb; have n0_ := Aside0.mk (below_step (by repeat (first | (with_reducible first | exact HB.out | apply below_alloc | apply pw_below_drewN | apply below_drew1) | exact HB.out)) hb); have n1_ := Aside0.mk (hbox); have n2_ := Aside0.mk ((by rw [hg]; exact (below_size (by repeat (first | (with_reducible first | exact HB.out | apply below_alloc | apply pw_below_drewN | apply below_drew1) | exact HB.out))) : w.heap.size ≤ gb152)); have n3_ := Aside0.mk ((by rw [hg]; exact (below_size (by repeat (first | (with_reducible first | exact HB.out | apply below_alloc | apply pw_below_drewN | apply below_drew1) | exact HB.out))) : w.heap.size ≤ gb152)); clear HB; have HB := n0_; have BK152 := n1_; have GW152 := n2_; have GE152 := n3_; clear n0_ n1_ n2_ n3_; clear hb hbox hg; have hcz12_0 : w11.cell? ⟨gb152, 0, none⟩ = some (.int .i64 a0_0) := (blk_cell BK152.out 0).trans rfl; have hcz12_1 : w11.cell? ⟨gb152, 1, none⟩ = some (.int .i64 a0_1) := (blk_cell BK152.out 1).trans rfl; have hcz12_2 : w11.cell? ⟨gb152, 2, none⟩ = some (.int .i64 a0_2) := (blk_cell BK152.out 2).trans rfl; have hfz12_0 := blk_frozen BK152.out 0; have hfz12_1 := blk_frozen BK152.out 1; have hfz12_2 := blk_frozen BK152.out 2) | (go_at_call 35; (with_reducible refine (arrearsref05_two.calls k (wrap64 (Int.tdiv a0_0 100)) t153 _ A2.out).mono ?_); rintro e w' ⟨rfl, ⟨nd, rfl⟩⟩; (try first | exact ⟨rfl, _, World.drewN_drewN _ _ _⟩ | exact ⟨rfl, _, Eq.trans (World.drewN_drewN _ _ _) (congrArg (World.drewN _) (Nat.add_assoc _ _ _))⟩)) | (go_at_call 35; (with_reducible refine (arrearsref05_two.calls k a0_0 t154 _ A3.out).mono ?_); rintro e w' ⟨rfl, ⟨nd, rfl⟩⟩; (try first | exact ⟨rfl, _, World.drewN_drewN _ _ _⟩ | exact ⟨rfl, _, Eq.trans (World.drewN_drewN _ _ _) (congrArg (World.drewN _) (Nat.add_assoc _ _ _))⟩)) | (go_at_call 35; (with_reducible refine (arrearsref05_two.calls k a0_1 t155 _ A6.out).mono ?_); rintro e w' ⟨rfl, ⟨nd, rfl⟩⟩; (try first | exact ⟨rfl, _, World.drewN_drewN _ _ _⟩ | exact ⟨rfl, _, Eq.trans (World.drewN_drewN _ _ _) (congrArg (World.drewN _) (Nat.add_assoc _ _ _))⟩)) | (go_at_call 35; (with_reducible refine (arrearsref05_two.calls k a0_2 t156 _ A9.out).mono ?_); rintro e w' ⟨rfl, ⟨nd, rfl⟩⟩; (try first | exact ⟨rfl, _, World.drewN_drewN _ _ _⟩ | exact ⟨rfl, _, Eq.trans (World.drewN_drewN _ _ _) (congrArg (World.drewN _) (Nat.add_assoc _ _ _))⟩))); try go_wp2_with (first | ((with_reducible refine gate_dst (N := 1) rfl ?_); refine box_event ?hg (N := 1) ?hd (cs := #[.int .i64 a0_0, .int .i64 a0_1, .int .i64 a0_2]) (t := 26) ?hr ?_; (case hd => rfl); (case hg => rfl); (case hr => first | (go_simp; done) | (go_simp; rfl)); intro gb152 hg w11 hbox hb; have n0_ := Aside0.mk (below_step (by repeat (first | (with_reducible first | exact HB.out | apply below_alloc | apply pw_below_drewN | apply below_drew1) | exact HB.out)) hb); have n1_ := Aside0.mk (hbox); have n2_ := Aside0.mk ((by rw [hg]; exact (below_size (by repeat (first | (with_reducible first | exact HB.out | apply below_alloc | apply pw_below_drewN | apply below_drew1) | exact HB.out))) : w.heap.size ≤ gb152)); have n3_ := Aside0.mk ((by rw [hg]; exact (below_size (by repeat (first | (with_reducible first | exact HB.out | apply below_alloc | apply pw_below_drewN | apply below_drew1) | exact HB.out))) : w.heap.size ≤ gb152)); clear HB; have HB := n0_; have BK152 := n1_; have GW152 := n2_; have GE152 := n3_; clear n0_ n1_ n2_ n3_; clear hb hbox hg; have hcz12_0 : w11.cell? ⟨gb152, 0, none⟩ = some (.int .i64 a0_0) := (blk_cell BK152.out 0).trans rfl; have hcz12_1 : w11.cell? ⟨gb152, 1, none⟩ = some (.int .i64 a0_1) := (blk_cell BK152.out 1).trans rfl; have hcz12_2 : w11.cell? ⟨gb152, 2, none⟩ = some (.int .i64 a0_2) := (blk_cell BK152.out 2).trans rfl; have hfz12_0 := blk_frozen BK152.out 0; have hfz12_1 := blk_frozen BK152.out 1; have hfz12_2 := blk_frozen BK152.out 2) | (go_at_call 35; (with_reducible refine (arrearsref05_two.calls k (wrap64 (Int.tdiv a0_0 100)) t153 _ A2.out).mono ?_); rintro e w' ⟨rfl, ⟨nd, rfl⟩⟩; (try first | exact ⟨rfl, _, World.drewN_drewN _ _ _⟩ | exact ⟨rfl, _, Eq.trans (World.drewN_drewN _ _ _) (congrArg (World.drewN _) (Nat.add_assoc _ _ _))⟩)) | (go_at_call 35; (with_reducible refine (arrearsref05_two.calls k a0_0 t154 _ A3.out).mono ?_); rintro e w' ⟨rfl, ⟨nd, rfl⟩⟩; (try first | exact ⟨rfl, _, World.drewN_drewN _ _ _⟩ | exact ⟨rfl, _, Eq.trans (World.drewN_drewN _ _ _) (congrArg (World.drewN _) (Nat.add_assoc _ _ _))⟩)) | (go_at_call 35; (with_reducible refine (arrearsref05_two.calls k a0_1 t155 _ A6.out).mono ?_); rintro e w' ⟨rfl, ⟨nd, rfl⟩⟩; (try first | exact ⟨rfl, _, World.drewN_drewN _ _ _⟩ | exact ⟨rfl, _, Eq.trans (World.drewN_drewN _ _ _) (congrArg (World.drewN _) (Nat.add_assoc _ _ _))⟩)) | (go_at_call 35; (with_reducible refine (arrearsref05_two.calls k a0_2 t156 _ A9.out).mono ?_); rintro e w' ⟨rfl, ⟨nd, rfl⟩⟩; (try first | exact ⟨rfl, _, World.drewN_drewN _ _ _⟩ | exact ⟨rfl, _, Eq.trans (World.drewN_drewN _ _ _) (congrArg (World.drewN _) (Nat.add_assoc _ _ _))⟩))))
            go_ret
            exact ⟨by first | rfl | (simp [errW_none, errW_some] <;> rfl) | (simp [*, errW_none, errW_some] <;> rfl), by repeat (first | (with_reducible first | exact HB.out | apply below_alloc | apply pw_below_drewN | apply below_drew1 | refine below_set ?_ GE152.out) | exact HB.out)⟩
          · rw [if_neg c10] at H
            exact absurd H (by simp)
        · rw [if_neg c8] at H
          exact absurd H (by simp)
      · rw [if_neg c7] at H
        exact absurd H (by simp)
    · rw [if_neg c5] at H
      exact absurd H (by simp)
  · rw [if_neg c4] at H
    exact absurd H (by simp)

end Go.Proofs.YtbgjeelbbmcpeaaDoor.PDateTurns
