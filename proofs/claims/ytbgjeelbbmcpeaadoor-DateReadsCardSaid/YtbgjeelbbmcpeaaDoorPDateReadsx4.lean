-- Printed by a wrapper of this session's round the kit's print.py; Lean checks it.
import Derived.Test.YtbgjeelbbmcpeaaDoorPDateReadsx0
import Derived.Test.YtbgjeelbbmcpeaaDoorPDateReadsx3
namespace Go.Proofs.YtbgjeelbbmcpeaaDoor.PDateReads
open Go.RowKit Go.Proofs.YtbgjeelbbmcpeaaDoorW.PrintWords Go.Proofs.YtbgjeelbbmcpeaaDoorW.PrintLast Go.Proofs.YtbgjeelbbmcpeaaDoorW.PrintMore
attribute [local go_sem] max2_int min2_int max_two min_two max_three min_three max_four min_four   -- for this text's walks alone
set_option linter.unusedVariables false
set_option linter.unusedSimpArgs false

/-! ### date_Day_Text: function 20 -/
def date_Day_Text.f (k : Nat) (a0 : Int) : Option (ByteArray) := (date_Day_Civil.f k a0).bind fun bt134 => (if bt134.2.2.2.isNone = true then ((date_pad.f k bt134.1 4).bind fun t140 => (if t140.size + 1 ≤ 9223372036854775807 then ((date_pad.f k bt134.2.1 2).bind fun t141 => (if (t140 ++ (⟨#[45]⟩ : ByteArray)).size + t141.size ≤ 9223372036854775807 then (if ((t140 ++ (⟨#[45]⟩ : ByteArray)) ++ t141).size + 1 ≤ 9223372036854775807 then ((date_pad.f k bt134.2.2.1 2).bind fun t142 => (if (((t140 ++ (⟨#[45]⟩ : ByteArray)) ++ t141) ++ (⟨#[45]⟩ : ByteArray)).size + t142.size ≤ 9223372036854775807 then (some ((((t140 ++ (⟨#[45]⟩ : ByteArray)) ++ t141) ++ (⟨#[45]⟩ : ByteArray)) ++ t142)) else (none))) else (none)) else (none))) else (none))) else (some (⟨#[]⟩ : ByteArray)))
theorem date_Day_Text.mono : ∀ a0 k, LeO (date_Day_Text.f k a0) (date_Day_Text.f (k + 1) a0) := by
  intro a0 k
  unfold date_Day_Text.f
  repeat' first
      | (with_reducible exact date_Day_Civil.mono _ _)
      | (with_reducible exact date_pad.mono _ _ _)
      | (with_reducible exact LeO.refl _)
      | (with_reducible exact LeO.none _)
      | (with_reducible refine LeO.ite ?_ ?_)
      | (with_reducible refine LeO.bind ?_ (fun _ => ?_))
      | exact date_Day_Civil.mono _ _
      | exact date_pad.mono _ _ _
      | exact LeO.none _
      | refine LeO.ite ?_ ?_
      | refine LeO.bind ?_ (fun _ => ?_)
def date_Day_Text.T4 : Bool × List (List Nat × List Nat) := (true, [([], []), ([0], [0]), ([1], [1]), ([2], [2]), ([], []), ([4], [4]), ([5, 2], [5]), ([3, 6], [3, 6]), ([7], [7]), ([], []), ([9], [9]), ([10, 6], [10]), ([8, 11], [8, 11]), ([12, 11, 0, 1, 2, 3, 4, 5, 6, 7, 8, 9, 10, 11, 12], [12])])
def date_Day_Text.B4 : List Nat := [0, 1, 3, 7, 0, 16, 55, 127, 255, 0, 512, 1655, 4095, 8191]
theorem date_Day_Text.tab4 : rtab .any (opsOf Tryd.f20 4) = date_Day_Text.T4 := by kernel_rfl
theorem date_Day_Text.bits4 : waitsOk date_Day_Text.T4.2 date_Day_Text.B4 = true := by kernel_rfl
set_option maxHeartbeats 8000000 in
set_option maxRecDepth 100000 in
theorem date_Day_Text.calls (k : Nat) (a0 : Int) (r : ByteArray) (w : World) (hG : Go.Proofs.YtbgjeelbbmcpeaaDoor.M.Laid w) (h : date_Day_Text.f k a0 = some r) :
    Calls Tryd.prog 20 #[.int .i32 a0] w fun e w' => e = .returned (.string r) ∧ Below w.heap.size w w' := by
  have hu23 := Tryd.underlying23
  have hu28 := Tryd.underlying28
  have hu32 := Tryd.underlying32
  have HB := Aside0.mk (Below.refl w.heap.size w)
  have HG := Aside0.mk hG
  clear hG
  have H : ((date_Day_Civil.f k a0).bind fun bt134 => (if bt134.2.2.2.isNone = true then ((date_pad.f k bt134.1 4).bind fun t140 => (if t140.size + 1 ≤ 9223372036854775807 then ((date_pad.f k bt134.2.1 2).bind fun t141 => (if (t140 ++ (⟨#[45]⟩ : ByteArray)).size + t141.size ≤ 9223372036854775807 then (if ((t140 ++ (⟨#[45]⟩ : ByteArray)) ++ t141).size + 1 ≤ 9223372036854775807 then ((date_pad.f k bt134.2.2.1 2).bind fun t142 => (if (((t140 ++ (⟨#[45]⟩ : ByteArray)) ++ t141) ++ (⟨#[45]⟩ : ByteArray)).size + t142.size ≤ 9223372036854775807 then (some ((((t140 ++ (⟨#[45]⟩ : ByteArray)) ++ t141) ++ (⟨#[45]⟩ : ByteArray)) ++ t142)) else (none))) else (none)) else (none))) else (none))) else (some (⟨#[]⟩ : ByteArray)))) = some r := h
  clear h
  replace H := Option.bind_eq_some_iff.mp H
  obtain ⟨⟨t134, t135, t136, t137⟩, A20, H⟩ := H
  replace H : (if t137.isNone = true then ((date_pad.f k t134 4).bind fun t140 => (if t140.size + 1 ≤ 9223372036854775807 then ((date_pad.f k t135 2).bind fun t141 => (if (t140 ++ (⟨#[45]⟩ : ByteArray)).size + t141.size ≤ 9223372036854775807 then (if ((t140 ++ (⟨#[45]⟩ : ByteArray)) ++ t141).size + 1 ≤ 9223372036854775807 then ((date_pad.f k t136 2).bind fun t142 => (if (((t140 ++ (⟨#[45]⟩ : ByteArray)) ++ t141) ++ (⟨#[45]⟩ : ByteArray)).size + t142.size ≤ 9223372036854775807 then (some ((((t140 ++ (⟨#[45]⟩ : ByteArray)) ++ t141) ++ (⟨#[45]⟩ : ByteArray)) ++ t142)) else (none))) else (none)) else (none))) else (none))) else (some (⟨#[]⟩ : ByteArray))) = some r := H
  have A2 := Aside0.mk A20
  clear A20
  rcases t137 with _ | q139
  · have H1 : ((date_pad.f k t134 4).bind fun t140 => (if t140.size + 1 ≤ 9223372036854775807 then ((date_pad.f k t135 2).bind fun t141 => (if (t140 ++ (⟨#[45]⟩ : ByteArray)).size + t141.size ≤ 9223372036854775807 then (if ((t140 ++ (⟨#[45]⟩ : ByteArray)) ++ t141).size + 1 ≤ 9223372036854775807 then ((date_pad.f k t136 2).bind fun t142 => (if (((t140 ++ (⟨#[45]⟩ : ByteArray)) ++ t141) ++ (⟨#[45]⟩ : ByteArray)).size + t142.size ≤ 9223372036854775807 then (some ((((t140 ++ (⟨#[45]⟩ : ByteArray)) ++ t141) ++ (⟨#[45]⟩ : ByteArray)) ++ t142)) else (none))) else (none)) else (none))) else (none))) = some r := by rw [if_pos (show (none : Option Int).isNone = true by rfl)] at H; exact H
    clear H
    have H := H1
    clear H1
    try simp only [errW_none, errW_some]
    replace H := Option.bind_eq_some_iff.mp H
    obtain ⟨t140, A30, H⟩ := H
    replace H : (if t140.size + 1 ≤ 9223372036854775807 then ((date_pad.f k t135 2).bind fun t141 => (if (t140 ++ (⟨#[45]⟩ : ByteArray)).size + t141.size ≤ 9223372036854775807 then (if ((t140 ++ (⟨#[45]⟩ : ByteArray)) ++ t141).size + 1 ≤ 9223372036854775807 then ((date_pad.f k t136 2).bind fun t142 => (if (((t140 ++ (⟨#[45]⟩ : ByteArray)) ++ t141) ++ (⟨#[45]⟩ : ByteArray)).size + t142.size ≤ 9223372036854775807 then (some ((((t140 ++ (⟨#[45]⟩ : ByteArray)) ++ t141) ++ (⟨#[45]⟩ : ByteArray)) ++ t142)) else (none))) else (none)) else (none))) else (none)) = some r := H
    have A3 := Aside0.mk A30
    clear A30
    by_cases c4 : t140.size + 1 ≤ 9223372036854775807
    · rw [if_pos c4] at H
      have c4b0 := eq_true c4
      have c4b1 : decide (t140.size + 1 ≤ 9223372036854775807) = true := decide_eq_true c4
      try have c4b2 : (9223372036854775807 < t140.size + 1) = False := eq_false (Nat.not_lt.2 c4)
      replace H := Option.bind_eq_some_iff.mp H
      obtain ⟨t141, A50, H⟩ := H
      replace H : (if (t140 ++ (⟨#[45]⟩ : ByteArray)).size + t141.size ≤ 9223372036854775807 then (if ((t140 ++ (⟨#[45]⟩ : ByteArray)) ++ t141).size + 1 ≤ 9223372036854775807 then ((date_pad.f k t136 2).bind fun t142 => (if (((t140 ++ (⟨#[45]⟩ : ByteArray)) ++ t141) ++ (⟨#[45]⟩ : ByteArray)).size + t142.size ≤ 9223372036854775807 then (some ((((t140 ++ (⟨#[45]⟩ : ByteArray)) ++ t141) ++ (⟨#[45]⟩ : ByteArray)) ++ t142)) else (none))) else (none)) else (none)) = some r := H
      have A5 := Aside0.mk A50
      clear A50
      by_cases c6 : (t140 ++ (⟨#[45]⟩ : ByteArray)).size + t141.size ≤ 9223372036854775807
      · rw [if_pos c6] at H
        have c6b0 := eq_true c6
        have c6b1 : decide ((t140 ++ (⟨#[45]⟩ : ByteArray)).size + t141.size ≤ 9223372036854775807) = true := decide_eq_true c6
        try have c6b2 : (9223372036854775807 < (t140 ++ (⟨#[45]⟩ : ByteArray)).size + t141.size) = False := eq_false (Nat.not_lt.2 c6)
        try have c6b3 : (9223372036854775807 < t140.size + 1 + t141.size) = False := eq_false (by have q_ := c6; simp only [ByteArray.size_append, show (⟨#[45]⟩ : ByteArray).size = 1 from rfl] at q_; exact Nat.not_lt.2 q_)
        by_cases c7 : ((t140 ++ (⟨#[45]⟩ : ByteArray)) ++ t141).size + 1 ≤ 9223372036854775807
        · rw [if_pos c7] at H
          have c7b0 := eq_true c7
          have c7b1 : decide (((t140 ++ (⟨#[45]⟩ : ByteArray)) ++ t141).size + 1 ≤ 9223372036854775807) = true := decide_eq_true c7
          try have c7b2 : (9223372036854775807 < ((t140 ++ (⟨#[45]⟩ : ByteArray)) ++ t141).size + 1) = False := eq_false (Nat.not_lt.2 c7)
          try have c7b3 : (9223372036854775807 < t140.size + 1 + t141.size + 1) = False := eq_false (by have q_ := c7; simp only [ByteArray.size_append, show (⟨#[45]⟩ : ByteArray).size = 1 from rfl] at q_; exact Nat.not_lt.2 q_)
          replace H := Option.bind_eq_some_iff.mp H
          obtain ⟨t142, A80, H⟩ := H
          replace H : (if (((t140 ++ (⟨#[45]⟩ : ByteArray)) ++ t141) ++ (⟨#[45]⟩ : ByteArray)).size + t142.size ≤ 9223372036854775807 then (some ((((t140 ++ (⟨#[45]⟩ : ByteArray)) ++ t141) ++ (⟨#[45]⟩ : ByteArray)) ++ t142)) else (none)) = some r := H
          have A8 := Aside0.mk A80
          clear A80
          by_cases c9 : (((t140 ++ (⟨#[45]⟩ : ByteArray)) ++ t141) ++ (⟨#[45]⟩ : ByteArray)).size + t142.size ≤ 9223372036854775807
          · rw [if_pos c9] at H
            have c9b0 := eq_true c9
            have c9b1 : decide ((((t140 ++ (⟨#[45]⟩ : ByteArray)) ++ t141) ++ (⟨#[45]⟩ : ByteArray)).size + t142.size ≤ 9223372036854775807) = true := decide_eq_true c9
            try have c9b2 : (9223372036854775807 < (((t140 ++ (⟨#[45]⟩ : ByteArray)) ++ t141) ++ (⟨#[45]⟩ : ByteArray)).size + t142.size) = False := eq_false (Nat.not_lt.2 c9)
            try have c9b3 : (9223372036854775807 < t140.size + 1 + t141.size + 1 + t142.size) = False := eq_false (by have q_ := c9; simp only [ByteArray.size_append, show (⟨#[45]⟩ : ByteArray).size = 1 from rfl] at q_; exact Nat.not_lt.2 q_)
            obtain rfl := Option.some.inj H
            go_enter Tryd.func20, Tryd.ntmps20
            try go_wp2_with (first | ((with_reducible refine gate_callee (f := 19) rfl ?_); refine goesL_ (some 7) rfl rfl Tryd.func19 (by kernel_rfl) rfl #[.int .i32 a0] rfl (by (try simp only [List.map_toArray, List.map_cons, List.map_nil]); first | done | rfl | (simp only [List.length_drop, List.length_take]; rfl)) ?_; (with_reducible refine (date_Day_Civil.calls k a0 t134 t135 t136 none _ A2.out).mono ?_); rintro e w10 ⟨rfl, hb⟩; refine ⟨_, rfl, ?_⟩; have n0_ := Aside0.mk (below_step (by repeat (first | (with_reducible first | exact HB.out | apply below_alloc | apply pw_below_drewN | apply below_drew1) | exact HB.out)) hb); clear HB; have HB := n0_; clear n0_; (try clear hb); (try clear hb2); (try clear hk); (try clear hi); (try simp only [errW_none, errW_some])) | ((with_reducible refine gate_dst (N := 3) rfl ?_); refine box_event ?hg (N := 3) ?hd (cs := #[.int .i64 0, .int .i64 0, .int .i64 0]) (t := 23) ?hr ?_; (case hd => rfl); (case hg => rfl); (case hr => first | (go_simp; done) | (go_simp; rfl)); intro gb138 hg w11 hbox hb; have n0_ := Aside0.mk (below_step (by repeat (first | (with_reducible first | exact HB.out | apply below_alloc | apply pw_below_drewN | apply below_drew1) | exact HB.out)) hb); have n1_ := Aside0.mk (hbox); have n2_ := Aside0.mk ((by rw [hg]; exact (below_size (by repeat (first | (with_reducible first | exact HB.out | apply below_alloc | apply pw_below_drewN | apply below_drew1) | exact HB.out))) : w.heap.size ≤ gb138)); have n3_ := Aside0.mk ((by rw [hg]; exact (below_size (by repeat (first | (with_reducible first | exact HB.out | apply below_alloc | apply pw_below_drewN | apply below_drew1) | exact HB.out))) : w.heap.size ≤ gb138)); clear HB; have HB := n0_; have BK138 := n1_; have GW138 := n2_; have GE138 := n3_; clear n0_ n1_ n2_ n3_; clear hb hbox hg; have hcz12_0 : w11.cell? ⟨gb138, 0, none⟩ = some (.int .i64 0) := (blk_cell BK138.out 0).trans rfl; have hcz12_1 : w11.cell? ⟨gb138, 1, none⟩ = some (.int .i64 0) := (blk_cell BK138.out 1).trans rfl; have hcz12_2 : w11.cell? ⟨gb138, 2, none⟩ = some (.int .i64 0) := (blk_cell BK138.out 2).trans rfl; have hfz12_0 := blk_frozen BK138.out 0; have hfz12_1 := blk_frozen BK138.out 1; have hfz12_2 := blk_frozen BK138.out 2))
            have n0_ : Aside0 ((((w11.setCell ⟨gb138, 0, none⟩ (.int .i64 t134)).setCell ⟨gb138, 1, none⟩ (.int .i64 t135)).setCell ⟨gb138, 2, none⟩ (.int .i64 t136)).heap[gb138]? = some (.cells #[.int .i64 t134, .int .i64 t135, .int .i64 t136] 23 (0, 0))) := ⟨by (with_reducible repeat (first | refine blk_drewN ?_ _ | refine blk_drew ?_ | refine blk_alloc ?_ _)); refine blk_put (cs := #[.int .i64 t134, .int .i64 t135, .int .i64 0]) ?_ 2 _ rfl; (with_reducible repeat (first | refine blk_drewN ?_ _ | refine blk_drew ?_ | refine blk_alloc ?_ _)); refine blk_put (cs := #[.int .i64 t134, .int .i64 0, .int .i64 0]) ?_ 1 _ rfl; (with_reducible repeat (first | refine blk_drewN ?_ _ | refine blk_drew ?_ | refine blk_alloc ?_ _)); refine blk_put (cs := #[.int .i64 0, .int .i64 0, .int .i64 0]) ?_ 0 _ rfl; (with_reducible repeat (first | refine blk_drewN ?_ _ | refine blk_drew ?_ | refine blk_alloc ?_ _)); exact BK138.out⟩
            have n1_ : Aside0 (Below w.heap.size w (((w11.setCell ⟨gb138, 0, none⟩ (.int .i64 t134)).setCell ⟨gb138, 1, none⟩ (.int .i64 t135)).setCell ⟨gb138, 2, none⟩ (.int .i64 t136))) := ⟨by repeat (first | (with_reducible first | exact HB.out | apply below_alloc | apply pw_below_drewN | apply below_drew1 | refine below_set ?_ GE138.out) | exact HB.out)⟩
            (try clear BK138)
            (try clear HB)
            generalize (((w11.setCell ⟨gb138, 0, none⟩ (.int .i64 t134)).setCell ⟨gb138, 1, none⟩ (.int .i64 t135)).setCell ⟨gb138, 2, none⟩ (.int .i64 t136)) = w13 at n0_ n1_ ⊢
            have BK138 := n0_
            have HB := n1_
            clear n0_ n1_
            have n0_ := Aside0.mk (blk_drew BK138.out)
            have n1_ := Aside0.mk (below_drew1 HB.out)
            clear BK138
            clear HB
            have BK138 := n0_
            have HB := n1_
            clear n0_ n1_
            refine start_ (n := 14) (S := fun w' => w'.cell? ⟨gb138, 0, none⟩ = some (.int .i64 t134) ∧ w'.cell? ⟨gb138, 1, none⟩ = some (.int .i64 t135) ∧ w'.cell? ⟨gb138, 2, none⟩ = some (.int .i64 t136)) (ds := []) #[false, false, false, false, false, false, false, false, false, false, false, false, false, false] (by kernel_rfl) rfl rfl ⟨(blk_cell BK138.out 0).trans rfl, (blk_cell BK138.out 1).trans rfl, (blk_cell BK138.out 2).trans rfl⟩ (fun hHeld => ?_); refine with_tabW date_Day_Text.tab4 date_Day_Text.bits4 (fun HT_ HW_ => ?_)
            generalize w13.drew = w14 at BK138 HB hHeld ⊢
            refine pure_ (i := 0) (N := some 12) (v := ?_) (a' := ?_) #[true, false, false, false, false, false, false, false, false, false, false, false, false, false] rfl rfl (any_of HT_.out (by kernel_rfl)) (fun _ _ _ h => h) (Or.inl ⟨by rfl, ?_⟩) ?_ ?_
            rotate_left
            · intro w'
              go_simp
              with_reducible rfl
            rotate_left
            · simp only [Act.put, List.setIfInBounds_toArray, List.set_cons_zero, List.set_cons_succ, i64_w, i32_w]
              rfl
            refine pure_ (i := 4) (N := some 16) (v := ?_) (a' := ?_) #[true, false, false, false, true, false, false, false, false, false, false, false, false, false] rfl rfl (any_of HT_.out (by kernel_rfl)) (fun _ _ _ h => h) (Or.inl ⟨by rfl, ?_⟩) ?_ ?_
            rotate_left
            · intro w'
              go_simp
              with_reducible rfl
            rotate_left
            · simp only [Act.put, List.setIfInBounds_toArray, List.set_cons_zero, List.set_cons_succ, i64_w, i32_w]
              rfl
            refine pure_ (i := 9) (N := some 21) (v := ?_) (a' := ?_) #[true, false, false, false, true, false, false, false, false, true, false, false, false, false] rfl rfl (any_of HT_.out (by kernel_rfl)) (fun _ _ _ h => h) (Or.inl ⟨by rfl, ?_⟩) ?_ ?_
            rotate_left
            · intro w'
              go_simp
              with_reducible rfl
            rotate_left
            · simp only [Act.put, List.setIfInBounds_toArray, List.set_cons_zero, List.set_cons_succ, i64_w, i32_w]
              rfl
            refine take_ (i := 1) (N := some 13) (v := ?_) (a' := ?_) #[true, true, false, false, true, false, false, false, false, true, false, false, false, false] rfl rfl (take_ofW HT_.out HW_.out (by kernel_rfl)) (fun _ _ _ h => h) (Or.inl ⟨by rfl, ?_⟩) hHeld ?_ ?_
            rotate_left
            · rintro w' ⟨s0, s1, s2⟩
              go_simp
              with_reducible rfl
            rotate_left
            · simp only [Act.put, List.setIfInBounds_toArray, List.set_cons_zero, List.set_cons_succ, i64_w, i32_w]
              rfl
            refine take_ (i := 5) (N := some 17) (v := ?_) (a' := ?_) #[true, true, false, false, true, true, false, false, false, true, false, false, false, false] rfl rfl (take_ofW HT_.out HW_.out (by kernel_rfl)) (fun _ _ _ h => h) (Or.inl ⟨by rfl, ?_⟩) hHeld ?_ ?_
            rotate_left
            · rintro w' ⟨s0, s1, s2⟩
              go_simp
              with_reducible rfl
            rotate_left
            · simp only [Act.put, List.setIfInBounds_toArray, List.set_cons_zero, List.set_cons_succ, i64_w, i32_w]
              rfl
            refine take_ (i := 10) (N := some 22) (v := ?_) (a' := ?_) #[true, true, false, false, true, true, false, false, false, true, true, false, false, false] rfl rfl (take_ofW HT_.out HW_.out (by kernel_rfl)) (fun _ _ _ h => h) (Or.inl ⟨by rfl, ?_⟩) hHeld ?_ ?_
            rotate_left
            · rintro w' ⟨s0, s1, s2⟩
              go_simp
              with_reducible rfl
            rotate_left
            · simp only [Act.put, List.setIfInBounds_toArray, List.set_cons_zero, List.set_cons_succ, i64_w, i32_w]
              rfl
            refine one_ (i := 2) (N := some 14) #[true, true, true, false, true, true, false, false, false, true, true, false, false, false] rfl rfl (one_of HT_.out (by kernel_rfl)) (by decide) (fun K hK => ?_)
            refine goes_ Tryd.func33 (by kernel_rfl) rfl #[.int .i64 t134, .int .i64 4] (by rfl) rfl rfl (by (try simp only [List.map_toArray, List.map_cons, List.map_nil]); first | done | rfl | (simp only [List.length_drop, List.length_take]; rfl)) ?_
            with_reducible refine (date_pad.calls k t134 4 t140 _ ?hGL A3.out).mono ?_
            case hGL => exact Go.Proofs.YtbgjeelbbmcpeaaDoor.M.Laid.below HG.out (by repeat (first | (with_reducible first | exact HB.out | apply below_alloc | apply pw_below_drewN | apply below_drew1 | refine below_set ?_ GE138.out) | exact HB.out))
            rintro e w15 ⟨rfl, hb⟩
            refine ⟨_, rfl, ?_⟩
            have n0_ := Aside0.mk (blk_below (g := gb138) (o := .cells #[.int .i64 t134, .int .i64 t135, .int .i64 t136] 23 (0, 0)) (by (with_reducible repeat (first | refine blk_drewN ?_ _ | refine blk_drew ?_ | refine blk_alloc ?_ _)); exact BK138.out) hb)
            have n1_ := Aside0.mk (below_step (by repeat (first | (with_reducible first | exact HB.out | apply below_alloc | apply pw_below_drewN | apply below_drew1 | refine below_set ?_ GE138.out) | exact HB.out)) hb)
            clear BK138
            clear HB
            have BK138 := n0_
            have HB := n1_
            clear n0_ n1_
            (try clear hb)
            (try clear hb2)
            (try clear hk)
            (try clear hi)
            refine hK.out _ _ ⟨(blk_cell BK138.out 0).trans rfl, (blk_cell BK138.out 1).trans rfl, (blk_cell BK138.out 2).trans rfl⟩ (fun hHeld => ?_)
            clear hK K
            refine norm_ (a' := ?_) ?_ ?_
            rotate_left
            · show Act.put _ (some 14) _ = _
              simp only [Act.put, List.setIfInBounds_toArray, List.set_cons_zero, List.set_cons_succ, i64_w, i32_w]
              rfl
            refine pure_ (i := 3) (N := some 15) (v := ?_) (a' := ?_) #[true, true, true, true, true, true, false, false, false, true, true, false, false, false] rfl rfl (any_of HT_.out (by kernel_rfl)) (fun _ _ _ h => h) (Or.inl ⟨by rfl, ?_⟩) ?_ ?_
            rotate_left
            · intro w'
              go_simp
              with_reducible rfl
            rotate_left
            · simp only [Act.put, List.setIfInBounds_toArray, List.set_cons_zero, List.set_cons_succ, i64_w, i32_w]
              rfl
            refine one_ (i := 6) (N := some 18) #[true, true, true, true, true, true, true, false, false, true, true, false, false, false] rfl rfl (one_of HT_.out (by kernel_rfl)) (by decide) (fun K hK => ?_)
            refine goes_ Tryd.func33 (by kernel_rfl) rfl #[.int .i64 t135, .int .i64 2] (by rfl) rfl rfl (by (try simp only [List.map_toArray, List.map_cons, List.map_nil]); first | done | rfl | (simp only [List.length_drop, List.length_take]; rfl)) ?_
            with_reducible refine (date_pad.calls k t135 2 t141 _ ?hGL A5.out).mono ?_
            case hGL => exact Go.Proofs.YtbgjeelbbmcpeaaDoor.M.Laid.below HG.out (by repeat (first | (with_reducible first | exact HB.out | apply below_alloc | apply pw_below_drewN | apply below_drew1 | refine below_set ?_ GE138.out) | exact HB.out))
            rintro e w16 ⟨rfl, hb⟩
            refine ⟨_, rfl, ?_⟩
            have n0_ := Aside0.mk (blk_below (g := gb138) (o := .cells #[.int .i64 t134, .int .i64 t135, .int .i64 t136] 23 (0, 0)) (by (with_reducible repeat (first | refine blk_drewN ?_ _ | refine blk_drew ?_ | refine blk_alloc ?_ _)); exact BK138.out) hb)
            have n1_ := Aside0.mk (below_step (by repeat (first | (with_reducible first | exact HB.out | apply below_alloc | apply pw_below_drewN | apply below_drew1 | refine below_set ?_ GE138.out) | exact HB.out)) hb)
            clear BK138
            clear HB
            have BK138 := n0_
            have HB := n1_
            clear n0_ n1_
            (try clear hb)
            (try clear hb2)
            (try clear hk)
            (try clear hi)
            refine hK.out _ _ ⟨(blk_cell BK138.out 0).trans rfl, (blk_cell BK138.out 1).trans rfl, (blk_cell BK138.out 2).trans rfl⟩ (fun hHeld => ?_)
            clear hK K
            refine norm_ (a' := ?_) ?_ ?_
            rotate_left
            · show Act.put _ (some 18) _ = _
              simp only [Act.put, List.setIfInBounds_toArray, List.set_cons_zero, List.set_cons_succ, i64_w, i32_w]
              rfl
            refine pure_ (i := 7) (N := some 19) (v := ?_) (a' := ?_) #[true, true, true, true, true, true, true, true, false, true, true, false, false, false] rfl rfl (any_of HT_.out (by kernel_rfl)) (fun _ _ _ h => h) (Or.inl ⟨by rfl, ?_⟩) ?_ ?_
            rotate_left
            · intro w'
              go_simp
              with_reducible rfl
            rotate_left
            · simp only [Act.put, List.setIfInBounds_toArray, List.set_cons_zero, List.set_cons_succ, i64_w, i32_w]
              rfl
            refine pure_ (i := 8) (N := some 20) (v := ?_) (a' := ?_) #[true, true, true, true, true, true, true, true, true, true, true, false, false, false] rfl rfl (any_of HT_.out (by kernel_rfl)) (fun _ _ _ h => h) (Or.inl ⟨by rfl, ?_⟩) ?_ ?_
            rotate_left
            · intro w'
              go_simp
              with_reducible rfl
            rotate_left
            · simp only [Act.put, List.setIfInBounds_toArray, List.set_cons_zero, List.set_cons_succ, i64_w, i32_w]
              rfl
            refine one_ (i := 11) (N := some 23) #[true, true, true, true, true, true, true, true, true, true, true, true, false, false] rfl rfl (one_of HT_.out (by kernel_rfl)) (by decide) (fun K hK => ?_)
            refine goes_ Tryd.func33 (by kernel_rfl) rfl #[.int .i64 t136, .int .i64 2] (by rfl) rfl rfl (by (try simp only [List.map_toArray, List.map_cons, List.map_nil]); first | done | rfl | (simp only [List.length_drop, List.length_take]; rfl)) ?_
            with_reducible refine (date_pad.calls k t136 2 t142 _ ?hGL A8.out).mono ?_
            case hGL => exact Go.Proofs.YtbgjeelbbmcpeaaDoor.M.Laid.below HG.out (by repeat (first | (with_reducible first | exact HB.out | apply below_alloc | apply pw_below_drewN | apply below_drew1 | refine below_set ?_ GE138.out) | exact HB.out))
            rintro e w17 ⟨rfl, hb⟩
            refine ⟨_, rfl, ?_⟩
            have n0_ := Aside0.mk (blk_below (g := gb138) (o := .cells #[.int .i64 t134, .int .i64 t135, .int .i64 t136] 23 (0, 0)) (by (with_reducible repeat (first | refine blk_drewN ?_ _ | refine blk_drew ?_ | refine blk_alloc ?_ _)); exact BK138.out) hb)
            have n1_ := Aside0.mk (below_step (by repeat (first | (with_reducible first | exact HB.out | apply below_alloc | apply pw_below_drewN | apply below_drew1 | refine below_set ?_ GE138.out) | exact HB.out)) hb)
            clear BK138
            clear HB
            have BK138 := n0_
            have HB := n1_
            clear n0_ n1_
            (try clear hb)
            (try clear hb2)
            (try clear hk)
            (try clear hi)
            refine hK.out _ _ ⟨(blk_cell BK138.out 0).trans rfl, (blk_cell BK138.out 1).trans rfl, (blk_cell BK138.out 2).trans rfl⟩ (fun hHeld => ?_)
            clear hK K
            refine norm_ (a' := ?_) ?_ ?_
            rotate_left
            · show Act.put _ (some 23) _ = _
              simp only [Act.put, List.setIfInBounds_toArray, List.set_cons_zero, List.set_cons_succ, i64_w, i32_w]
              rfl
            refine pure_ (i := 12) (N := some 24) (v := ?_) (a' := ?_) #[true, true, true, true, true, true, true, true, true, true, true, true, true, false] rfl rfl (any_of HT_.out (by kernel_rfl)) (fun _ _ _ h => h) (Or.inl ⟨by rfl, ?_⟩) ?_ ?_
            rotate_left
            · intro w'
              go_simp
              with_reducible rfl
            rotate_left
            · simp only [Act.put, List.setIfInBounds_toArray, List.set_cons_zero, List.set_cons_succ, i64_w, i32_w]
              rfl
            refine pure_ (i := 13) (N := some 2) (v := ?_) (a' := ?_) #[true, true, true, true, true, true, true, true, true, true, true, true, true, true] rfl rfl (any_of HT_.out (by kernel_rfl)) (fun _ _ _ h => h) (Or.inl ⟨by rfl, ?_⟩) ?_ ?_
            rotate_left
            · intro w'
              go_simp
              with_reducible rfl
            rotate_left
            · simp only [Act.put, List.setIfInBounds_toArray, List.set_cons_zero, List.set_cons_succ, i64_w, i32_w]
              rfl
            refine done_ (done_of HT_.out (by kernel_rfl)) ?_
            (try simp only [errW_none, errW_some])
            try go_wp2
            go_ret
            exact ⟨by first | rfl | (simp [errW_none, errW_some] <;> rfl) | (simp [*, errW_none, errW_some] <;> rfl), by repeat (first | (with_reducible first | exact HB.out | apply below_alloc | apply pw_below_drewN | apply below_drew1 | refine below_set ?_ GE138.out) | exact HB.out)⟩
          · rw [if_neg c9] at H
            exact absurd H (by simp)
        · rw [if_neg c7] at H
          exact absurd H (by simp)
      · rw [if_neg c6] at H
        exact absurd H (by simp)
    · rw [if_neg c4] at H
      exact absurd H (by simp)
  · have H1 : (some (⟨#[]⟩ : ByteArray)) = some r := by rw [if_neg (show ¬ (some q139).isNone = true by simp)] at H; exact H
    clear H
    have H := H1
    clear H1
    try simp only [errW_none, errW_some]
    obtain rfl := Option.some.inj H
    go_enter Tryd.func20, Tryd.ntmps20
    go_wp2_with (first | ((with_reducible refine gate_callee (f := 19) rfl ?_); refine goesL_ (some 7) rfl rfl Tryd.func19 (by kernel_rfl) rfl #[.int .i32 a0] rfl (by (try simp only [List.map_toArray, List.map_cons, List.map_nil]); first | done | rfl | (simp only [List.length_drop, List.length_take]; rfl)) ?_; (with_reducible refine (date_Day_Civil.calls k a0 t134 t135 t136 (some q139) _ A2.out).mono ?_); rintro e w18 ⟨rfl, hb⟩; refine ⟨_, rfl, ?_⟩; have n0_ := Aside0.mk (below_step (by repeat (first | (with_reducible first | exact HB.out | apply below_alloc | apply pw_below_drewN | apply below_drew1) | exact HB.out)) hb); clear HB; have HB := n0_; clear n0_; (try clear hb); (try clear hb2); (try clear hk); (try clear hi); (try simp only [errW_none, errW_some])) | ((with_reducible refine gate_dst (N := 3) rfl ?_); refine box_event ?hg (N := 3) ?hd (cs := #[.int .i64 0, .int .i64 0, .int .i64 0]) (t := 23) ?hr ?_; (case hd => rfl); (case hg => rfl); (case hr => first | (go_simp; done) | (go_simp; rfl)); intro gb138 hg w19 hbox hb; have n0_ := Aside0.mk (below_step (by repeat (first | (with_reducible first | exact HB.out | apply below_alloc | apply pw_below_drewN | apply below_drew1) | exact HB.out)) hb); have n1_ := Aside0.mk (hbox); have n2_ := Aside0.mk ((by rw [hg]; exact (below_size (by repeat (first | (with_reducible first | exact HB.out | apply below_alloc | apply pw_below_drewN | apply below_drew1) | exact HB.out))) : w.heap.size ≤ gb138)); have n3_ := Aside0.mk ((by rw [hg]; exact (below_size (by repeat (first | (with_reducible first | exact HB.out | apply below_alloc | apply pw_below_drewN | apply below_drew1) | exact HB.out))) : w.heap.size ≤ gb138)); clear HB; have HB := n0_; have BK138 := n1_; have GW138 := n2_; have GE138 := n3_; clear n0_ n1_ n2_ n3_; clear hb hbox hg; have hcz20_0 : w19.cell? ⟨gb138, 0, none⟩ = some (.int .i64 0) := (blk_cell BK138.out 0).trans rfl; have hcz20_1 : w19.cell? ⟨gb138, 1, none⟩ = some (.int .i64 0) := (blk_cell BK138.out 1).trans rfl; have hcz20_2 : w19.cell? ⟨gb138, 2, none⟩ = some (.int .i64 0) := (blk_cell BK138.out 2).trans rfl; have hfz20_0 := blk_frozen BK138.out 0; have hfz20_1 := blk_frozen BK138.out 1; have hfz20_2 := blk_frozen BK138.out 2))
    go_ret
    exact ⟨by first | rfl | (simp [errW_none, errW_some] <;> rfl) | (simp [*, errW_none, errW_some] <;> rfl), by repeat (first | (with_reducible first | exact HB.out | apply below_alloc | apply pw_below_drewN | apply below_drew1 | refine below_set ?_ GE138.out) | exact HB.out)⟩

/-! ### date_Read: function 22 -/
/-- What strconv.Atoi tells, the error apart. -/
def atoiV (l : List UInt8) : Int := match Go.Lib.atoiAll l with | .ok v => v | .range => Go.Lib.atoiSat l | _ => 0
def date_Read.f (k : Nat) (a0 : ByteArray) : Option (Int × Option Int) :=
  if a0.size = 10 then
    (date_Civil_Number.f k (atoiV (a0.extract 0 4).data.toList) (atoiV (a0.extract 5 7).data.toList) (atoiV (a0.extract 8 10).data.toList)).bind fun n =>
      if n.2.isNone = true then (date_Day_Text.f k n.1).bind fun t => (if (t.toList == a0.toList) = true then some (n.1, none) else some (0, some 15))
      else some (0, some 15)
  else some (0, some 15)
theorem date_Read.mono : ∀ a0 k, LeO (date_Read.f k a0) (date_Read.f (k + 1) a0) := by
  intro a0 k
  unfold date_Read.f
  repeat' first
      | (with_reducible exact date_Civil_Number.mono _ _ _ _)
      | (with_reducible exact date_Day_Text.mono _ _)
      | (with_reducible exact LeO.refl _)
      | (with_reducible refine LeO.ite ?_ ?_)
      | (with_reducible refine LeO.bind ?_ (fun _ => ?_))
theorem atoi_any (s : ByteArray) (hs : s.size ≤ 10) (W : World) (hG : Go.Proofs.YtbgjeelbbmcpeaaDoor.M.Laid W) : Calls Tryd.prog 34 #[.string s] W fun e w' => (∃ ev, e = .returned (.tuple #[.int .i64 (atoiV s.data.toList), ev])) ∧ Below W.heap.size W w' := by
  rcases hA : Go.Lib.atoiAll s.data.toList with v | _ | _
  · refine (Tryd.strconv_Atoi_ok s (by omega) v hA W).mono ?_
    rintro e w' ⟨rfl, hw⟩
    refine ⟨⟨_, by simp [atoiV, hA]; rfl⟩, ?_⟩
    rcases hw with rfl | ⟨t, rfl⟩
    · exact Below.refl _ _
    · exact Go.Joins.below_bytesWorld _ _ _ _ (Nat.le_refl _)
  · obtain ⟨tp, p, hv⟩ := hG.syn
    refine (Any.strconv_Atoi_syntax_var Tryd.laysC172 s (by omega) hA tp p W hv).mono ?_
    rintro e w' ⟨N, rfl, -, -, hb⟩
    exact ⟨⟨_, by simp [atoiV, hA]; rfl⟩, hb⟩
  · obtain ⟨tp, p, hv⟩ := hG.rng
    refine (Any.strconv_Atoi_range_var Tryd.laysC172 s (by omega) hA tp p W hv).mono ?_
    rintro e w' ⟨N, rfl, -, -, hb⟩
    exact ⟨⟨_, by simp [atoiV, hA]; rfl⟩, hb⟩
theorem atoi_at (s : ByteArray) (v : Int) (hv : atoiV s.data.toList = v) (hs : s.size ≤ 10) (W : World) (hG : Go.Proofs.YtbgjeelbbmcpeaaDoor.M.Laid W) : Calls Tryd.prog 34 #[.string s] W fun e w' => (∃ ev, e = .returned (.tuple #[.int .i64 v, ev])) ∧ Below W.heap.size W w' := hv ▸ atoi_any s hs W hG
set_option maxHeartbeats 4000000 in
theorem read_len (s : ByteArray) (h1 : ((s.size : Int) == 10) = false) (h2 : ((s.size : Int) != 10) = true) (w : World) :
    Calls Tryd.prog 22 #[.string s] w fun e w' => e = .returned (.tuple #[.int .i32 0, errW (some 15)]) ∧ Below w.heap.size w w' := by
  have i0 : ∀ w, (Instr.index 64 (.agg #[.int .i64 0, .int .i64 4, .int .i64 5, .int .i64 7, .int .i64 8, .int .i64 10]) (.int .i64 0)).run Tryd.prog w = .ok (.agg #[.int .i64 0, .int .i64 4]) w := fun _ => by kernel_rfl
  have i1 : ∀ w, (Instr.index 64 (.agg #[.int .i64 0, .int .i64 4, .int .i64 5, .int .i64 7, .int .i64 8, .int .i64 10]) (.int .i64 1)).run Tryd.prog w = .ok (.agg #[.int .i64 5, .int .i64 7]) w := fun _ => by kernel_rfl
  have i2 : ∀ w, (Instr.index 64 (.agg #[.int .i64 0, .int .i64 4, .int .i64 5, .int .i64 7, .int .i64 8, .int .i64 10]) (.int .i64 2)).run Tryd.prog w = .ok (.agg #[.int .i64 8, .int .i64 10]) w := fun _ => by kernel_rfl
  go_enter Tryd.func22, Tryd.ntmps22
  go_wp2_with (first | ((with_reducible refine gate_dst (N := 4) rfl ?_); (try (refine gate_guard (by rfl) ?_; dsimp only)); refine box_event ?hg (N := 4) ?hd (cs := #[.int .i64 0, .int .i64 0, .int .i64 0]) (t := 62) ?hr ?_; (case hd => rfl); (case hg => rfl); (case hr => first | (go_simp; done) | (go_simp; rfl)); intro gb4 hg w4 hbox hb; have BK4 := Aside0.mk hbox; have HB := Aside0.mk hb; have GE4 := Aside0.mk (Nat.le_of_eq hg.symm : w.heap.size ≤ gb4); clear hbox hb hg))
  refine wp_loop_rounds 1 ?_
  rw [rounds_succ]
  go_wp2_with (first | ((with_reducible refine gate_dst (N := 6) rfl ?_); (try (refine gate_guard (by rfl) ?_; dsimp only)); refine box_event ?hg (N := 6) ?hd (cs := #[.int .i64 0, .int .i64 0]) (t := 63) ?hr ?_; (case hd => rfl); (case hg => rfl); (case hr => first | (go_simp; done) | (go_simp; rfl)); intro gb6 hg w6 hbox hb; have m_ := Aside0.mk (below_step HB.out hb); have GE6 := Aside0.mk (Nat.le_trans (below_size HB.out) (Nat.le_of_eq hg.symm) : w.heap.size ≤ gb6); clear HB; have HB := m_; clear m_; have hc6_0 : w6.cell? ⟨gb6, 0, none⟩ = some (.int .i64 0) := (blk_cell hbox 0).trans rfl; have hc6_1 : w6.cell? ⟨gb6, 1, none⟩ = some (.int .i64 0) := (blk_cell hbox 1).trans rfl; have hf6_0 := blk_frozen hbox 0; have hf6_1 := blk_frozen hbox 1; clear hbox hb hg))
  go_ret2
  exact ⟨by simp [errW_some], by repeat (first | exact HB.out | refine below_set ?_ GE6.out)⟩
set_option maxHeartbeats 8000000 in
theorem read_num (k : Nat) (a0 : ByteArray) (hs : a0.size = 10) (n c : Int) (v0 v1 v2 : Int) (e0 : atoiV (a0.extract 0 4).data.toList = v0) (e1 : atoiV (a0.extract 5 7).data.toList = v1) (e2 : atoiV (a0.extract 8 10).data.toList = v2) (hN : date_Civil_Number.f k v0 v1 v2 = some (n, some c)) (w : World) (hG : Go.Proofs.YtbgjeelbbmcpeaaDoor.M.Laid w) :
    Calls Tryd.prog 22 #[.string a0] w fun e w' => e = .returned (.tuple #[.int .i32 0, errW (some 15)]) ∧ Below w.heap.size w w' := by
  have E0 := Aside0.mk e0
  have E1 := Aside0.mk e1
  have E2 := Aside0.mk e2
  clear e0 e1 e2
  have i0 : ∀ w, (Instr.index 64 (.agg #[.int .i64 0, .int .i64 4, .int .i64 5, .int .i64 7, .int .i64 8, .int .i64 10]) (.int .i64 0)).run Tryd.prog w = .ok (.agg #[.int .i64 0, .int .i64 4]) w := fun _ => by kernel_rfl
  have i1 : ∀ w, (Instr.index 64 (.agg #[.int .i64 0, .int .i64 4, .int .i64 5, .int .i64 7, .int .i64 8, .int .i64 10]) (.int .i64 1)).run Tryd.prog w = .ok (.agg #[.int .i64 5, .int .i64 7]) w := fun _ => by kernel_rfl
  have i2 : ∀ w, (Instr.index 64 (.agg #[.int .i64 0, .int .i64 4, .int .i64 5, .int .i64 7, .int .i64 8, .int .i64 10]) (.int .i64 2)).run Tryd.prog w = .ok (.agg #[.int .i64 8, .int .i64 10]) w := fun _ => by kernel_rfl
  have HG := Aside0.mk hG
  clear hG
  have HN := Aside0.mk hN
  clear hN
  go_enter Tryd.func22, Tryd.ntmps22
  go_wp2_with (first | ((with_reducible refine gate_dst (N := 4) rfl ?_); (try (refine gate_guard (by rfl) ?_; dsimp only)); refine box_event ?hg (N := 4) ?hd (cs := #[.int .i64 0, .int .i64 0, .int .i64 0]) (t := 62) ?hr ?_; (case hd => rfl); (case hg => rfl); (case hr => first | (go_simp; done) | (go_simp; rfl)); intro gb4 hg w4 hbox hb; have BK4 := Aside0.mk hbox; have HB := Aside0.mk hb; have GE4 := Aside0.mk (Nat.le_of_eq hg.symm : w.heap.size ≤ gb4); clear hbox hb hg))
  refine wp_loop_rounds 4 ?_
  rw [rounds_succ]
  go_wp2_with (first | ((with_reducible refine gate_dst (N := 6) rfl ?_); (try (refine gate_guard (by rfl) ?_; dsimp only)); refine box_event ?hg (N := 6) ?hd (cs := #[.int .i64 0, .int .i64 0]) (t := 63) ?hr ?_; (case hd => rfl); (case hg => rfl); (case hr => first | (go_simp; done) | (go_simp; rfl)); intro gb6_0 hg w6_0 hbox hb; have n0_ := Aside0.mk (blk_below (BK4.out) hb); have m_ := Aside0.mk (below_step (HB.out) hb); have NE := Aside0.mk (by rw [hg]; exact Nat.ne_of_lt (blk_lt (BK4.out)) : gb4 ≠ gb6_0); have GE6 := Aside0.mk (Nat.le_trans (below_size (HB.out)) (Nat.le_of_eq hg.symm) : w.heap.size ≤ gb6_0); clear BK4 HB; have BK4 := n0_; have HB := m_; clear n0_ m_; have hc6_0 : w6_0.cell? ⟨gb6_0, 0, none⟩ = some (.int .i64 0) := (blk_cell hbox 0).trans rfl; have hc6_1 : w6_0.cell? ⟨gb6_0, 1, none⟩ = some (.int .i64 0) := (blk_cell hbox 1).trans rfl; have hf6_0 := blk_frozen hbox 0; have hf6_1 := blk_frozen hbox 1; clear hbox hb hg) | (go_at_call 34; (with_reducible refine (atoi_at (a0.extract 0 4) v0 E0.out (by first | (simp [ByteArray.size_extract]; done) | (simp [ByteArray.size_extract]; omega)) _ (Go.Proofs.YtbgjeelbbmcpeaaDoor.M.Laid.below HG.out (below_set (below_set HB.out GE6.out) GE6.out))).mono ?_); rintro e w7_0 ⟨⟨ev0, rfl⟩, hb⟩; have n0_ := Aside0.mk (blk_below (blk_far (blk_far BK4.out (p := ⟨gb6_0, 0, none⟩) NE.out _) (p := ⟨gb6_0, 1, none⟩) NE.out _) hb); have m_ := Aside0.mk (below_step (below_set (below_set HB.out GE6.out) GE6.out) hb); clear BK4 HB; have BK4 := n0_; have HB := m_; clear n0_ m_ hc6_0 hc6_1 hf6_0 hf6_1; have hc4_0 : w7_0.cell? ⟨gb4, 0, none⟩ = some (.int .i64 0) := (blk_cell BK4.out 0).trans rfl; have hf4_0 := blk_frozen BK4.out 0; have hc4_1 : w7_0.cell? ⟨gb4, 1, none⟩ = some (.int .i64 0) := (blk_cell BK4.out 1).trans rfl; have hf4_1 := blk_frozen BK4.out 1; have hc4_2 : w7_0.cell? ⟨gb4, 2, none⟩ = some (.int .i64 0) := (blk_cell BK4.out 2).trans rfl; have hf4_2 := blk_frozen BK4.out 2; clear hb NE GE6))
  rw [rounds_succ]
  go_wp2_with (first | ((with_reducible refine gate_dst (N := 6) rfl ?_); (try (refine gate_guard (by rfl) ?_; dsimp only)); refine box_event ?hg (N := 6) ?hd (cs := #[.int .i64 0, .int .i64 0]) (t := 63) ?hr ?_; (case hd => rfl); (case hg => rfl); (case hr => first | (go_simp; done) | (go_simp; rfl)); intro gb6_1 hg w6_1 hbox hb; have n0_ := Aside0.mk (blk_below (blk_put (cs' := #[.int .i64 v0, .int .i64 0, .int .i64 0]) BK4.out 0 (.int .i64 v0) rfl) hb); have m_ := Aside0.mk (below_step (below_set HB.out GE4.out) hb); have NE := Aside0.mk (by rw [hg]; exact Nat.ne_of_lt (blk_lt (blk_put (cs' := #[.int .i64 v0, .int .i64 0, .int .i64 0]) BK4.out 0 (.int .i64 v0) rfl)) : gb4 ≠ gb6_1); have GE6 := Aside0.mk (Nat.le_trans (below_size (below_set HB.out GE4.out)) (Nat.le_of_eq hg.symm) : w.heap.size ≤ gb6_1); clear BK4 HB; have BK4 := n0_; have HB := m_; clear n0_ m_; have hc6_0 : w6_1.cell? ⟨gb6_1, 0, none⟩ = some (.int .i64 0) := (blk_cell hbox 0).trans rfl; have hc6_1 : w6_1.cell? ⟨gb6_1, 1, none⟩ = some (.int .i64 0) := (blk_cell hbox 1).trans rfl; have hf6_0 := blk_frozen hbox 0; have hf6_1 := blk_frozen hbox 1; clear hbox hb hg) | (go_at_call 34; (with_reducible refine (atoi_at (a0.extract 5 7) v1 E1.out (by first | (simp [ByteArray.size_extract]; done) | (simp [ByteArray.size_extract]; omega)) _ (Go.Proofs.YtbgjeelbbmcpeaaDoor.M.Laid.below HG.out (below_set (below_set HB.out GE6.out) GE6.out))).mono ?_); rintro e w7_1 ⟨⟨ev1, rfl⟩, hb⟩; have n0_ := Aside0.mk (blk_below (blk_far (blk_far BK4.out (p := ⟨gb6_1, 0, none⟩) NE.out _) (p := ⟨gb6_1, 1, none⟩) NE.out _) hb); have m_ := Aside0.mk (below_step (below_set (below_set HB.out GE6.out) GE6.out) hb); clear BK4 HB; have BK4 := n0_; have HB := m_; clear n0_ m_ hc6_0 hc6_1 hf6_0 hf6_1; have hc4_0 : w7_1.cell? ⟨gb4, 0, none⟩ = some (.int .i64 v0) := (blk_cell BK4.out 0).trans rfl; have hf4_0 := blk_frozen BK4.out 0; have hc4_1 : w7_1.cell? ⟨gb4, 1, none⟩ = some (.int .i64 0) := (blk_cell BK4.out 1).trans rfl; have hf4_1 := blk_frozen BK4.out 1; have hc4_2 : w7_1.cell? ⟨gb4, 2, none⟩ = some (.int .i64 0) := (blk_cell BK4.out 2).trans rfl; have hf4_2 := blk_frozen BK4.out 2; clear hb NE GE6))
  rw [rounds_succ]
  go_wp2_with (first | ((with_reducible refine gate_dst (N := 6) rfl ?_); (try (refine gate_guard (by rfl) ?_; dsimp only)); refine box_event ?hg (N := 6) ?hd (cs := #[.int .i64 0, .int .i64 0]) (t := 63) ?hr ?_; (case hd => rfl); (case hg => rfl); (case hr => first | (go_simp; done) | (go_simp; rfl)); intro gb6_2 hg w6_2 hbox hb; have n0_ := Aside0.mk (blk_below (blk_put (cs' := #[.int .i64 v0, .int .i64 v1, .int .i64 0]) BK4.out 1 (.int .i64 v1) rfl) hb); have m_ := Aside0.mk (below_step (below_set HB.out GE4.out) hb); have NE := Aside0.mk (by rw [hg]; exact Nat.ne_of_lt (blk_lt (blk_put (cs' := #[.int .i64 v0, .int .i64 v1, .int .i64 0]) BK4.out 1 (.int .i64 v1) rfl)) : gb4 ≠ gb6_2); have GE6 := Aside0.mk (Nat.le_trans (below_size (below_set HB.out GE4.out)) (Nat.le_of_eq hg.symm) : w.heap.size ≤ gb6_2); clear BK4 HB; have BK4 := n0_; have HB := m_; clear n0_ m_; have hc6_0 : w6_2.cell? ⟨gb6_2, 0, none⟩ = some (.int .i64 0) := (blk_cell hbox 0).trans rfl; have hc6_1 : w6_2.cell? ⟨gb6_2, 1, none⟩ = some (.int .i64 0) := (blk_cell hbox 1).trans rfl; have hf6_0 := blk_frozen hbox 0; have hf6_1 := blk_frozen hbox 1; clear hbox hb hg) | (go_at_call 34; (with_reducible refine (atoi_at (a0.extract 8 10) v2 E2.out (by first | (simp [ByteArray.size_extract]; done) | (simp [ByteArray.size_extract]; omega)) _ (Go.Proofs.YtbgjeelbbmcpeaaDoor.M.Laid.below HG.out (below_set (below_set HB.out GE6.out) GE6.out))).mono ?_); rintro e w7_2 ⟨⟨ev2, rfl⟩, hb⟩; have n0_ := Aside0.mk (blk_below (blk_far (blk_far BK4.out (p := ⟨gb6_2, 0, none⟩) NE.out _) (p := ⟨gb6_2, 1, none⟩) NE.out _) hb); have m_ := Aside0.mk (below_step (below_set (below_set HB.out GE6.out) GE6.out) hb); clear BK4 HB; have BK4 := n0_; have HB := m_; clear n0_ m_ hc6_0 hc6_1 hf6_0 hf6_1; have hc4_0 : w7_2.cell? ⟨gb4, 0, none⟩ = some (.int .i64 v0) := (blk_cell BK4.out 0).trans rfl; have hf4_0 := blk_frozen BK4.out 0; have hc4_1 : w7_2.cell? ⟨gb4, 1, none⟩ = some (.int .i64 v1) := (blk_cell BK4.out 1).trans rfl; have hf4_1 := blk_frozen BK4.out 1; have hc4_2 : w7_2.cell? ⟨gb4, 2, none⟩ = some (.int .i64 0) := (blk_cell BK4.out 2).trans rfl; have hf4_2 := blk_frozen BK4.out 2; clear hb NE GE6))
  rw [rounds_succ]
  go_wp2_with (first | (go_at_call 14; (with_reducible refine (date_Civil_Number.calls k _ _ _ n (some c) _ HN.out).mono ?_); rintro e w8 ⟨rfl, hb⟩; have m_ := Aside0.mk (below_step (below_set HB.out GE4.out) hb); clear HB; have HB := m_; clear m_ hb; simp only [errW_none, errW_some]))
  go_ret2
  exact ⟨by simp [errW_some], HB.out⟩
set_option maxHeartbeats 8000000 in
theorem read_yes (k : Nat) (a0 : ByteArray) (hs : a0.size = 10) (n : Int) (t : ByteArray) (v0 v1 v2 : Int) (e0 : atoiV (a0.extract 0 4).data.toList = v0) (e1 : atoiV (a0.extract 5 7).data.toList = v1) (e2 : atoiV (a0.extract 8 10).data.toList = v2) (hN : date_Civil_Number.f k v0 v1 v2 = some (n, none)) (hT : date_Day_Text.f k n = some t) (ht : (t.toList == a0.toList) = true) (w : World) (hG : Go.Proofs.YtbgjeelbbmcpeaaDoor.M.Laid w) :
    Calls Tryd.prog 22 #[.string a0] w fun e w' => e = .returned (.tuple #[.int .i32 n, errW none]) ∧ Below w.heap.size w w' := by
  have E0 := Aside0.mk e0
  have E1 := Aside0.mk e1
  have E2 := Aside0.mk e2
  clear e0 e1 e2
  have i0 : ∀ w, (Instr.index 64 (.agg #[.int .i64 0, .int .i64 4, .int .i64 5, .int .i64 7, .int .i64 8, .int .i64 10]) (.int .i64 0)).run Tryd.prog w = .ok (.agg #[.int .i64 0, .int .i64 4]) w := fun _ => by kernel_rfl
  have i1 : ∀ w, (Instr.index 64 (.agg #[.int .i64 0, .int .i64 4, .int .i64 5, .int .i64 7, .int .i64 8, .int .i64 10]) (.int .i64 1)).run Tryd.prog w = .ok (.agg #[.int .i64 5, .int .i64 7]) w := fun _ => by kernel_rfl
  have i2 : ∀ w, (Instr.index 64 (.agg #[.int .i64 0, .int .i64 4, .int .i64 5, .int .i64 7, .int .i64 8, .int .i64 10]) (.int .i64 2)).run Tryd.prog w = .ok (.agg #[.int .i64 8, .int .i64 10]) w := fun _ => by kernel_rfl
  have HG := Aside0.mk hG
  clear hG
  have HN := Aside0.mk hN
  clear hN
  have HT := Aside0.mk hT
  clear hT
  go_enter Tryd.func22, Tryd.ntmps22
  go_wp2_with (first | ((with_reducible refine gate_dst (N := 4) rfl ?_); (try (refine gate_guard (by rfl) ?_; dsimp only)); refine box_event ?hg (N := 4) ?hd (cs := #[.int .i64 0, .int .i64 0, .int .i64 0]) (t := 62) ?hr ?_; (case hd => rfl); (case hg => rfl); (case hr => first | (go_simp; done) | (go_simp; rfl)); intro gb4 hg w4 hbox hb; have BK4 := Aside0.mk hbox; have HB := Aside0.mk hb; have GE4 := Aside0.mk (Nat.le_of_eq hg.symm : w.heap.size ≤ gb4); clear hbox hb hg))
  refine wp_loop_rounds 4 ?_
  rw [rounds_succ]
  go_wp2_with (first | ((with_reducible refine gate_dst (N := 6) rfl ?_); (try (refine gate_guard (by rfl) ?_; dsimp only)); refine box_event ?hg (N := 6) ?hd (cs := #[.int .i64 0, .int .i64 0]) (t := 63) ?hr ?_; (case hd => rfl); (case hg => rfl); (case hr => first | (go_simp; done) | (go_simp; rfl)); intro gb6_0 hg w6_0 hbox hb; have n0_ := Aside0.mk (blk_below (BK4.out) hb); have m_ := Aside0.mk (below_step (HB.out) hb); have NE := Aside0.mk (by rw [hg]; exact Nat.ne_of_lt (blk_lt (BK4.out)) : gb4 ≠ gb6_0); have GE6 := Aside0.mk (Nat.le_trans (below_size (HB.out)) (Nat.le_of_eq hg.symm) : w.heap.size ≤ gb6_0); clear BK4 HB; have BK4 := n0_; have HB := m_; clear n0_ m_; have hc6_0 : w6_0.cell? ⟨gb6_0, 0, none⟩ = some (.int .i64 0) := (blk_cell hbox 0).trans rfl; have hc6_1 : w6_0.cell? ⟨gb6_0, 1, none⟩ = some (.int .i64 0) := (blk_cell hbox 1).trans rfl; have hf6_0 := blk_frozen hbox 0; have hf6_1 := blk_frozen hbox 1; clear hbox hb hg) | (go_at_call 34; (with_reducible refine (atoi_at (a0.extract 0 4) v0 E0.out (by first | (simp [ByteArray.size_extract]; done) | (simp [ByteArray.size_extract]; omega)) _ (Go.Proofs.YtbgjeelbbmcpeaaDoor.M.Laid.below HG.out (below_set (below_set HB.out GE6.out) GE6.out))).mono ?_); rintro e w7_0 ⟨⟨ev0, rfl⟩, hb⟩; have n0_ := Aside0.mk (blk_below (blk_far (blk_far BK4.out (p := ⟨gb6_0, 0, none⟩) NE.out _) (p := ⟨gb6_0, 1, none⟩) NE.out _) hb); have m_ := Aside0.mk (below_step (below_set (below_set HB.out GE6.out) GE6.out) hb); clear BK4 HB; have BK4 := n0_; have HB := m_; clear n0_ m_ hc6_0 hc6_1 hf6_0 hf6_1; have hc4_0 : w7_0.cell? ⟨gb4, 0, none⟩ = some (.int .i64 0) := (blk_cell BK4.out 0).trans rfl; have hf4_0 := blk_frozen BK4.out 0; have hc4_1 : w7_0.cell? ⟨gb4, 1, none⟩ = some (.int .i64 0) := (blk_cell BK4.out 1).trans rfl; have hf4_1 := blk_frozen BK4.out 1; have hc4_2 : w7_0.cell? ⟨gb4, 2, none⟩ = some (.int .i64 0) := (blk_cell BK4.out 2).trans rfl; have hf4_2 := blk_frozen BK4.out 2; clear hb NE GE6))
  rw [rounds_succ]
  go_wp2_with (first | ((with_reducible refine gate_dst (N := 6) rfl ?_); (try (refine gate_guard (by rfl) ?_; dsimp only)); refine box_event ?hg (N := 6) ?hd (cs := #[.int .i64 0, .int .i64 0]) (t := 63) ?hr ?_; (case hd => rfl); (case hg => rfl); (case hr => first | (go_simp; done) | (go_simp; rfl)); intro gb6_1 hg w6_1 hbox hb; have n0_ := Aside0.mk (blk_below (blk_put (cs' := #[.int .i64 v0, .int .i64 0, .int .i64 0]) BK4.out 0 (.int .i64 v0) rfl) hb); have m_ := Aside0.mk (below_step (below_set HB.out GE4.out) hb); have NE := Aside0.mk (by rw [hg]; exact Nat.ne_of_lt (blk_lt (blk_put (cs' := #[.int .i64 v0, .int .i64 0, .int .i64 0]) BK4.out 0 (.int .i64 v0) rfl)) : gb4 ≠ gb6_1); have GE6 := Aside0.mk (Nat.le_trans (below_size (below_set HB.out GE4.out)) (Nat.le_of_eq hg.symm) : w.heap.size ≤ gb6_1); clear BK4 HB; have BK4 := n0_; have HB := m_; clear n0_ m_; have hc6_0 : w6_1.cell? ⟨gb6_1, 0, none⟩ = some (.int .i64 0) := (blk_cell hbox 0).trans rfl; have hc6_1 : w6_1.cell? ⟨gb6_1, 1, none⟩ = some (.int .i64 0) := (blk_cell hbox 1).trans rfl; have hf6_0 := blk_frozen hbox 0; have hf6_1 := blk_frozen hbox 1; clear hbox hb hg) | (go_at_call 34; (with_reducible refine (atoi_at (a0.extract 5 7) v1 E1.out (by first | (simp [ByteArray.size_extract]; done) | (simp [ByteArray.size_extract]; omega)) _ (Go.Proofs.YtbgjeelbbmcpeaaDoor.M.Laid.below HG.out (below_set (below_set HB.out GE6.out) GE6.out))).mono ?_); rintro e w7_1 ⟨⟨ev1, rfl⟩, hb⟩; have n0_ := Aside0.mk (blk_below (blk_far (blk_far BK4.out (p := ⟨gb6_1, 0, none⟩) NE.out _) (p := ⟨gb6_1, 1, none⟩) NE.out _) hb); have m_ := Aside0.mk (below_step (below_set (below_set HB.out GE6.out) GE6.out) hb); clear BK4 HB; have BK4 := n0_; have HB := m_; clear n0_ m_ hc6_0 hc6_1 hf6_0 hf6_1; have hc4_0 : w7_1.cell? ⟨gb4, 0, none⟩ = some (.int .i64 v0) := (blk_cell BK4.out 0).trans rfl; have hf4_0 := blk_frozen BK4.out 0; have hc4_1 : w7_1.cell? ⟨gb4, 1, none⟩ = some (.int .i64 0) := (blk_cell BK4.out 1).trans rfl; have hf4_1 := blk_frozen BK4.out 1; have hc4_2 : w7_1.cell? ⟨gb4, 2, none⟩ = some (.int .i64 0) := (blk_cell BK4.out 2).trans rfl; have hf4_2 := blk_frozen BK4.out 2; clear hb NE GE6))
  rw [rounds_succ]
  go_wp2_with (first | ((with_reducible refine gate_dst (N := 6) rfl ?_); (try (refine gate_guard (by rfl) ?_; dsimp only)); refine box_event ?hg (N := 6) ?hd (cs := #[.int .i64 0, .int .i64 0]) (t := 63) ?hr ?_; (case hd => rfl); (case hg => rfl); (case hr => first | (go_simp; done) | (go_simp; rfl)); intro gb6_2 hg w6_2 hbox hb; have n0_ := Aside0.mk (blk_below (blk_put (cs' := #[.int .i64 v0, .int .i64 v1, .int .i64 0]) BK4.out 1 (.int .i64 v1) rfl) hb); have m_ := Aside0.mk (below_step (below_set HB.out GE4.out) hb); have NE := Aside0.mk (by rw [hg]; exact Nat.ne_of_lt (blk_lt (blk_put (cs' := #[.int .i64 v0, .int .i64 v1, .int .i64 0]) BK4.out 1 (.int .i64 v1) rfl)) : gb4 ≠ gb6_2); have GE6 := Aside0.mk (Nat.le_trans (below_size (below_set HB.out GE4.out)) (Nat.le_of_eq hg.symm) : w.heap.size ≤ gb6_2); clear BK4 HB; have BK4 := n0_; have HB := m_; clear n0_ m_; have hc6_0 : w6_2.cell? ⟨gb6_2, 0, none⟩ = some (.int .i64 0) := (blk_cell hbox 0).trans rfl; have hc6_1 : w6_2.cell? ⟨gb6_2, 1, none⟩ = some (.int .i64 0) := (blk_cell hbox 1).trans rfl; have hf6_0 := blk_frozen hbox 0; have hf6_1 := blk_frozen hbox 1; clear hbox hb hg) | (go_at_call 34; (with_reducible refine (atoi_at (a0.extract 8 10) v2 E2.out (by first | (simp [ByteArray.size_extract]; done) | (simp [ByteArray.size_extract]; omega)) _ (Go.Proofs.YtbgjeelbbmcpeaaDoor.M.Laid.below HG.out (below_set (below_set HB.out GE6.out) GE6.out))).mono ?_); rintro e w7_2 ⟨⟨ev2, rfl⟩, hb⟩; have n0_ := Aside0.mk (blk_below (blk_far (blk_far BK4.out (p := ⟨gb6_2, 0, none⟩) NE.out _) (p := ⟨gb6_2, 1, none⟩) NE.out _) hb); have m_ := Aside0.mk (below_step (below_set (below_set HB.out GE6.out) GE6.out) hb); clear BK4 HB; have BK4 := n0_; have HB := m_; clear n0_ m_ hc6_0 hc6_1 hf6_0 hf6_1; have hc4_0 : w7_2.cell? ⟨gb4, 0, none⟩ = some (.int .i64 v0) := (blk_cell BK4.out 0).trans rfl; have hf4_0 := blk_frozen BK4.out 0; have hc4_1 : w7_2.cell? ⟨gb4, 1, none⟩ = some (.int .i64 v1) := (blk_cell BK4.out 1).trans rfl; have hf4_1 := blk_frozen BK4.out 1; have hc4_2 : w7_2.cell? ⟨gb4, 2, none⟩ = some (.int .i64 0) := (blk_cell BK4.out 2).trans rfl; have hf4_2 := blk_frozen BK4.out 2; clear hb NE GE6))
  rw [rounds_succ]
  go_wp2_with (first | (go_at_call 14; (with_reducible refine (date_Civil_Number.calls k _ _ _ n none _ HN.out).mono ?_); rintro e w8 ⟨rfl, hb⟩; have m_ := Aside0.mk (below_step (below_set HB.out GE4.out) hb); clear HB; have HB := m_; clear m_ hb; simp only [errW_none, errW_some]) | (go_at_call 20; (with_reducible refine (date_Day_Text.calls k _ _ _ (Go.Proofs.YtbgjeelbbmcpeaaDoor.M.Laid.below HG.out HB.out) HT.out).mono ?_); rintro e w9 ⟨rfl, hb⟩; have m_ := Aside0.mk (below_step HB.out hb); clear HB; have HB := m_; clear m_ hb))
  go_ret2
  exact ⟨by simp [errW_some, errW_none], HB.out⟩
set_option maxHeartbeats 8000000 in
theorem read_no (k : Nat) (a0 : ByteArray) (hs : a0.size = 10) (n : Int) (t : ByteArray) (v0 v1 v2 : Int) (e0 : atoiV (a0.extract 0 4).data.toList = v0) (e1 : atoiV (a0.extract 5 7).data.toList = v1) (e2 : atoiV (a0.extract 8 10).data.toList = v2) (hN : date_Civil_Number.f k v0 v1 v2 = some (n, none)) (hT : date_Day_Text.f k n = some t) (ht : (t.toList == a0.toList) = false) (w : World) (hG : Go.Proofs.YtbgjeelbbmcpeaaDoor.M.Laid w) :
    Calls Tryd.prog 22 #[.string a0] w fun e w' => e = .returned (.tuple #[.int .i32 0, errW (some 15)]) ∧ Below w.heap.size w w' := by
  have E0 := Aside0.mk e0
  have E1 := Aside0.mk e1
  have E2 := Aside0.mk e2
  clear e0 e1 e2
  have i0 : ∀ w, (Instr.index 64 (.agg #[.int .i64 0, .int .i64 4, .int .i64 5, .int .i64 7, .int .i64 8, .int .i64 10]) (.int .i64 0)).run Tryd.prog w = .ok (.agg #[.int .i64 0, .int .i64 4]) w := fun _ => by kernel_rfl
  have i1 : ∀ w, (Instr.index 64 (.agg #[.int .i64 0, .int .i64 4, .int .i64 5, .int .i64 7, .int .i64 8, .int .i64 10]) (.int .i64 1)).run Tryd.prog w = .ok (.agg #[.int .i64 5, .int .i64 7]) w := fun _ => by kernel_rfl
  have i2 : ∀ w, (Instr.index 64 (.agg #[.int .i64 0, .int .i64 4, .int .i64 5, .int .i64 7, .int .i64 8, .int .i64 10]) (.int .i64 2)).run Tryd.prog w = .ok (.agg #[.int .i64 8, .int .i64 10]) w := fun _ => by kernel_rfl
  have HG := Aside0.mk hG
  clear hG
  have HN := Aside0.mk hN
  clear hN
  have HT := Aside0.mk hT
  clear hT
  go_enter Tryd.func22, Tryd.ntmps22
  go_wp2_with (first | ((with_reducible refine gate_dst (N := 4) rfl ?_); (try (refine gate_guard (by rfl) ?_; dsimp only)); refine box_event ?hg (N := 4) ?hd (cs := #[.int .i64 0, .int .i64 0, .int .i64 0]) (t := 62) ?hr ?_; (case hd => rfl); (case hg => rfl); (case hr => first | (go_simp; done) | (go_simp; rfl)); intro gb4 hg w4 hbox hb; have BK4 := Aside0.mk hbox; have HB := Aside0.mk hb; have GE4 := Aside0.mk (Nat.le_of_eq hg.symm : w.heap.size ≤ gb4); clear hbox hb hg))
  refine wp_loop_rounds 4 ?_
  rw [rounds_succ]
  go_wp2_with (first | ((with_reducible refine gate_dst (N := 6) rfl ?_); (try (refine gate_guard (by rfl) ?_; dsimp only)); refine box_event ?hg (N := 6) ?hd (cs := #[.int .i64 0, .int .i64 0]) (t := 63) ?hr ?_; (case hd => rfl); (case hg => rfl); (case hr => first | (go_simp; done) | (go_simp; rfl)); intro gb6_0 hg w6_0 hbox hb; have n0_ := Aside0.mk (blk_below (BK4.out) hb); have m_ := Aside0.mk (below_step (HB.out) hb); have NE := Aside0.mk (by rw [hg]; exact Nat.ne_of_lt (blk_lt (BK4.out)) : gb4 ≠ gb6_0); have GE6 := Aside0.mk (Nat.le_trans (below_size (HB.out)) (Nat.le_of_eq hg.symm) : w.heap.size ≤ gb6_0); clear BK4 HB; have BK4 := n0_; have HB := m_; clear n0_ m_; have hc6_0 : w6_0.cell? ⟨gb6_0, 0, none⟩ = some (.int .i64 0) := (blk_cell hbox 0).trans rfl; have hc6_1 : w6_0.cell? ⟨gb6_0, 1, none⟩ = some (.int .i64 0) := (blk_cell hbox 1).trans rfl; have hf6_0 := blk_frozen hbox 0; have hf6_1 := blk_frozen hbox 1; clear hbox hb hg) | (go_at_call 34; (with_reducible refine (atoi_at (a0.extract 0 4) v0 E0.out (by first | (simp [ByteArray.size_extract]; done) | (simp [ByteArray.size_extract]; omega)) _ (Go.Proofs.YtbgjeelbbmcpeaaDoor.M.Laid.below HG.out (below_set (below_set HB.out GE6.out) GE6.out))).mono ?_); rintro e w7_0 ⟨⟨ev0, rfl⟩, hb⟩; have n0_ := Aside0.mk (blk_below (blk_far (blk_far BK4.out (p := ⟨gb6_0, 0, none⟩) NE.out _) (p := ⟨gb6_0, 1, none⟩) NE.out _) hb); have m_ := Aside0.mk (below_step (below_set (below_set HB.out GE6.out) GE6.out) hb); clear BK4 HB; have BK4 := n0_; have HB := m_; clear n0_ m_ hc6_0 hc6_1 hf6_0 hf6_1; have hc4_0 : w7_0.cell? ⟨gb4, 0, none⟩ = some (.int .i64 0) := (blk_cell BK4.out 0).trans rfl; have hf4_0 := blk_frozen BK4.out 0; have hc4_1 : w7_0.cell? ⟨gb4, 1, none⟩ = some (.int .i64 0) := (blk_cell BK4.out 1).trans rfl; have hf4_1 := blk_frozen BK4.out 1; have hc4_2 : w7_0.cell? ⟨gb4, 2, none⟩ = some (.int .i64 0) := (blk_cell BK4.out 2).trans rfl; have hf4_2 := blk_frozen BK4.out 2; clear hb NE GE6))
  rw [rounds_succ]
  go_wp2_with (first | ((with_reducible refine gate_dst (N := 6) rfl ?_); (try (refine gate_guard (by rfl) ?_; dsimp only)); refine box_event ?hg (N := 6) ?hd (cs := #[.int .i64 0, .int .i64 0]) (t := 63) ?hr ?_; (case hd => rfl); (case hg => rfl); (case hr => first | (go_simp; done) | (go_simp; rfl)); intro gb6_1 hg w6_1 hbox hb; have n0_ := Aside0.mk (blk_below (blk_put (cs' := #[.int .i64 v0, .int .i64 0, .int .i64 0]) BK4.out 0 (.int .i64 v0) rfl) hb); have m_ := Aside0.mk (below_step (below_set HB.out GE4.out) hb); have NE := Aside0.mk (by rw [hg]; exact Nat.ne_of_lt (blk_lt (blk_put (cs' := #[.int .i64 v0, .int .i64 0, .int .i64 0]) BK4.out 0 (.int .i64 v0) rfl)) : gb4 ≠ gb6_1); have GE6 := Aside0.mk (Nat.le_trans (below_size (below_set HB.out GE4.out)) (Nat.le_of_eq hg.symm) : w.heap.size ≤ gb6_1); clear BK4 HB; have BK4 := n0_; have HB := m_; clear n0_ m_; have hc6_0 : w6_1.cell? ⟨gb6_1, 0, none⟩ = some (.int .i64 0) := (blk_cell hbox 0).trans rfl; have hc6_1 : w6_1.cell? ⟨gb6_1, 1, none⟩ = some (.int .i64 0) := (blk_cell hbox 1).trans rfl; have hf6_0 := blk_frozen hbox 0; have hf6_1 := blk_frozen hbox 1; clear hbox hb hg) | (go_at_call 34; (with_reducible refine (atoi_at (a0.extract 5 7) v1 E1.out (by first | (simp [ByteArray.size_extract]; done) | (simp [ByteArray.size_extract]; omega)) _ (Go.Proofs.YtbgjeelbbmcpeaaDoor.M.Laid.below HG.out (below_set (below_set HB.out GE6.out) GE6.out))).mono ?_); rintro e w7_1 ⟨⟨ev1, rfl⟩, hb⟩; have n0_ := Aside0.mk (blk_below (blk_far (blk_far BK4.out (p := ⟨gb6_1, 0, none⟩) NE.out _) (p := ⟨gb6_1, 1, none⟩) NE.out _) hb); have m_ := Aside0.mk (below_step (below_set (below_set HB.out GE6.out) GE6.out) hb); clear BK4 HB; have BK4 := n0_; have HB := m_; clear n0_ m_ hc6_0 hc6_1 hf6_0 hf6_1; have hc4_0 : w7_1.cell? ⟨gb4, 0, none⟩ = some (.int .i64 v0) := (blk_cell BK4.out 0).trans rfl; have hf4_0 := blk_frozen BK4.out 0; have hc4_1 : w7_1.cell? ⟨gb4, 1, none⟩ = some (.int .i64 0) := (blk_cell BK4.out 1).trans rfl; have hf4_1 := blk_frozen BK4.out 1; have hc4_2 : w7_1.cell? ⟨gb4, 2, none⟩ = some (.int .i64 0) := (blk_cell BK4.out 2).trans rfl; have hf4_2 := blk_frozen BK4.out 2; clear hb NE GE6))
  rw [rounds_succ]
  go_wp2_with (first | ((with_reducible refine gate_dst (N := 6) rfl ?_); (try (refine gate_guard (by rfl) ?_; dsimp only)); refine box_event ?hg (N := 6) ?hd (cs := #[.int .i64 0, .int .i64 0]) (t := 63) ?hr ?_; (case hd => rfl); (case hg => rfl); (case hr => first | (go_simp; done) | (go_simp; rfl)); intro gb6_2 hg w6_2 hbox hb; have n0_ := Aside0.mk (blk_below (blk_put (cs' := #[.int .i64 v0, .int .i64 v1, .int .i64 0]) BK4.out 1 (.int .i64 v1) rfl) hb); have m_ := Aside0.mk (below_step (below_set HB.out GE4.out) hb); have NE := Aside0.mk (by rw [hg]; exact Nat.ne_of_lt (blk_lt (blk_put (cs' := #[.int .i64 v0, .int .i64 v1, .int .i64 0]) BK4.out 1 (.int .i64 v1) rfl)) : gb4 ≠ gb6_2); have GE6 := Aside0.mk (Nat.le_trans (below_size (below_set HB.out GE4.out)) (Nat.le_of_eq hg.symm) : w.heap.size ≤ gb6_2); clear BK4 HB; have BK4 := n0_; have HB := m_; clear n0_ m_; have hc6_0 : w6_2.cell? ⟨gb6_2, 0, none⟩ = some (.int .i64 0) := (blk_cell hbox 0).trans rfl; have hc6_1 : w6_2.cell? ⟨gb6_2, 1, none⟩ = some (.int .i64 0) := (blk_cell hbox 1).trans rfl; have hf6_0 := blk_frozen hbox 0; have hf6_1 := blk_frozen hbox 1; clear hbox hb hg) | (go_at_call 34; (with_reducible refine (atoi_at (a0.extract 8 10) v2 E2.out (by first | (simp [ByteArray.size_extract]; done) | (simp [ByteArray.size_extract]; omega)) _ (Go.Proofs.YtbgjeelbbmcpeaaDoor.M.Laid.below HG.out (below_set (below_set HB.out GE6.out) GE6.out))).mono ?_); rintro e w7_2 ⟨⟨ev2, rfl⟩, hb⟩; have n0_ := Aside0.mk (blk_below (blk_far (blk_far BK4.out (p := ⟨gb6_2, 0, none⟩) NE.out _) (p := ⟨gb6_2, 1, none⟩) NE.out _) hb); have m_ := Aside0.mk (below_step (below_set (below_set HB.out GE6.out) GE6.out) hb); clear BK4 HB; have BK4 := n0_; have HB := m_; clear n0_ m_ hc6_0 hc6_1 hf6_0 hf6_1; have hc4_0 : w7_2.cell? ⟨gb4, 0, none⟩ = some (.int .i64 v0) := (blk_cell BK4.out 0).trans rfl; have hf4_0 := blk_frozen BK4.out 0; have hc4_1 : w7_2.cell? ⟨gb4, 1, none⟩ = some (.int .i64 v1) := (blk_cell BK4.out 1).trans rfl; have hf4_1 := blk_frozen BK4.out 1; have hc4_2 : w7_2.cell? ⟨gb4, 2, none⟩ = some (.int .i64 0) := (blk_cell BK4.out 2).trans rfl; have hf4_2 := blk_frozen BK4.out 2; clear hb NE GE6))
  rw [rounds_succ]
  go_wp2_with (first | (go_at_call 14; (with_reducible refine (date_Civil_Number.calls k _ _ _ n none _ HN.out).mono ?_); rintro e w8 ⟨rfl, hb⟩; have m_ := Aside0.mk (below_step (below_set HB.out GE4.out) hb); clear HB; have HB := m_; clear m_ hb; simp only [errW_none, errW_some]) | (go_at_call 20; (with_reducible refine (date_Day_Text.calls k _ _ _ (Go.Proofs.YtbgjeelbbmcpeaaDoor.M.Laid.below HG.out HB.out) HT.out).mono ?_); rintro e w9 ⟨rfl, hb⟩; have m_ := Aside0.mk (below_step HB.out hb); clear HB; have HB := m_; clear m_ hb))
  go_ret2
  exact ⟨by simp [errW_some, errW_none], HB.out⟩
theorem date_Read.calls (k : Nat) (a0 : ByteArray) (r1 : Int) (r2 : Option Int) (w : World) (hG : Go.Proofs.YtbgjeelbbmcpeaaDoor.M.Laid w) (h : date_Read.f k a0 = some (r1, r2)) :
    Calls Tryd.prog 22 #[.string a0] w fun e w' => e = .returned (.tuple #[.int .i32 r1, errW r2]) ∧ Below w.heap.size w w' := by
  unfold date_Read.f at h
  by_cases hs : a0.size = 10
  · rw [if_pos hs] at h
    cases hN : date_Civil_Number.f k (atoiV (a0.extract 0 4).data.toList) (atoiV (a0.extract 5 7).data.toList) (atoiV (a0.extract 8 10).data.toList) with
    | none => rw [hN] at h; cases h
    | some x =>
      obtain ⟨n, c⟩ := x
      rw [hN] at h
      simp only [Option.bind_some] at h
      cases c with
      | some c =>
        simp only [Option.isNone_some, Bool.false_eq_true, if_false, Option.some.injEq, Prod.mk.injEq] at h
        obtain ⟨rfl, rfl⟩ := h
        exact read_num k a0 hs n c _ _ _ rfl rfl rfl hN w hG
      | none =>
        simp only [Option.isNone_none, if_true] at h
        cases hT : date_Day_Text.f k n with
        | none => rw [hT] at h; cases h
        | some t =>
          rw [hT] at h
          simp only [Option.bind_some] at h
          cases ht : (t.toList == a0.toList) with
          | true =>
            rw [ht] at h
            simp only [if_true, Option.some.injEq, Prod.mk.injEq] at h
            obtain ⟨rfl, rfl⟩ := h
            exact read_yes k a0 hs n t _ _ _ rfl rfl rfl hN hT ht w hG
          | false =>
            rw [ht] at h
            simp only [Bool.false_eq_true, if_false, Option.some.injEq, Prod.mk.injEq] at h
            obtain ⟨rfl, rfl⟩ := h
            exact read_no k a0 hs n t _ _ _ rfl rfl rfl hN hT ht w hG
  · rw [if_neg hs] at h
    simp only [Option.some.injEq, Prod.mk.injEq] at h
    obtain ⟨rfl, rfl⟩ := h
    have h1 : ((a0.size : Int) == 10) = false := by rw [beq_eq_false_iff_ne]; omega
    exact read_len a0 h1 (by rw [bne, h1]; rfl) w


/-! ### arrearsref05_Right: function 10 -/
def arrearsref05_Right.f (k : Nat) (a0_0 : Int) (a0_1 : Int) (a0_2 : Int) : Option (Bool) := if a0_2 > 0 then ((arrearsref05_Length.f k a0_0 a0_1).bind fun t144 => (some (decide (a0_2 ≤ t144)))) else (some false)
theorem arrearsref05_Right.mono : ∀ a0 a1 a2 k, LeO (arrearsref05_Right.f k a0 a1 a2) (arrearsref05_Right.f (k + 1) a0 a1 a2) := by
  intro a0 a1 a2 k
  unfold arrearsref05_Right.f
  repeat' first
      | (with_reducible exact arrearsref05_Length.mono _ _ _)
      | (with_reducible exact LeO.refl _)
      | (with_reducible exact LeO.none _)
      | (with_reducible refine LeO.ite ?_ ?_)
      | (with_reducible refine LeO.bind ?_ (fun _ => ?_))
      | exact arrearsref05_Length.mono _ _ _
      | exact LeO.none _
      | refine LeO.ite ?_ ?_
      | refine LeO.bind ?_ (fun _ => ?_)
def arrearsref05_Right.T1 : Bool × List (List Nat × List Nat) := (true, [([], []), ([0], [0]), ([1], [1]), ([2], [2]), ([3], [3]), ([4, 3], [3, 4]), ([3], [3]), ([6, 3], [3, 6]), ([3], [3]), ([8, 3], [3, 8]), ([7, 9, 3, 3], [3, 7, 9]), ([5, 10, 3], [3, 5, 10]), ([3, 11], [3, 11]), ([12, 10, 0, 1, 2, 3, 4, 5, 6, 7, 8, 9, 10, 11, 12], [12])])
def arrearsref05_Right.B1 : List Nat := [0, 1, 3, 7, 15, 31, 15, 79, 15, 271, 975, 2047, 4095, 8191]
theorem arrearsref05_Right.tab1 : rtab .any (opsOf Tryd.f10 1) = arrearsref05_Right.T1 := by kernel_rfl
theorem arrearsref05_Right.bits1 : waitsOk arrearsref05_Right.T1.2 arrearsref05_Right.B1 = true := by kernel_rfl
set_option maxHeartbeats 8000000 in
set_option maxRecDepth 100000 in
theorem arrearsref05_Right.calls (k : Nat) (a0_0 : Int) (a0_1 : Int) (a0_2 : Int) (r : Bool) (w : World) (h : arrearsref05_Right.f k a0_0 a0_1 a0_2 = some r) :
    Calls Tryd.prog 10 #[.agg #[.int .i64 a0_0, .int .i64 a0_1, .int .i64 a0_2]] w fun e w' => e = .returned (.bool r) ∧ Below w.heap.size w w' := by
  have hu26 := Tryd.underlying26
  have HB := Aside0.mk (Below.refl w.heap.size w)
  have H : (if a0_2 > 0 then ((arrearsref05_Length.f k a0_0 a0_1).bind fun t144 => (some (decide (a0_2 ≤ t144)))) else (some false)) = some r := h
  clear h
  by_cases c2 : a0_2 > 0
  · rw [if_pos c2] at H
    have c2b0 : decide (0 < a0_2) = true := decide_eq_true c2
    clear c2
    replace H := Option.bind_eq_some_iff.mp H
    obtain ⟨t144, A30, H⟩ := H
    replace H : (some (decide (a0_2 ≤ t144))) = some r := H
    have A3 := Aside0.mk A30
    clear A30
    obtain rfl := Option.some.inj H
    go_enter Tryd.func10, Tryd.ntmps10
    try go_wp2_with (first | ((with_reducible refine gate_dst (N := 1) rfl ?_); refine box_event ?hg (N := 1) ?hd (cs := #[.int .i64 a0_0, .int .i64 a0_1, .int .i64 a0_2]) (t := 26) ?hr ?_; (case hd => rfl); (case hg => rfl); (case hr => first | (go_simp; done) | (go_simp; rfl)); intro gb143 hg w4 hbox hb; have n0_ := Aside0.mk (below_step (by repeat (first | (with_reducible first | exact HB.out | apply below_alloc | apply pw_below_drewN | apply below_drew1) | exact HB.out)) hb); have n1_ := Aside0.mk (hbox); have n2_ := Aside0.mk ((by rw [hg]; exact (below_size (by repeat (first | (with_reducible first | exact HB.out | apply below_alloc | apply pw_below_drewN | apply below_drew1) | exact HB.out))) : w.heap.size ≤ gb143)); have n3_ := Aside0.mk ((by rw [hg]; exact (below_size (by repeat (first | (with_reducible first | exact HB.out | apply below_alloc | apply pw_below_drewN | apply below_drew1) | exact HB.out))) : w.heap.size ≤ gb143)); clear HB; have HB := n0_; have BK143 := n1_; have GW143 := n2_; have GE143 := n3_; clear n0_ n1_ n2_ n3_; clear hb hbox hg))
    have n0_ := Aside0.mk (blk_drew BK143.out)
    have n1_ := Aside0.mk (below_drew1 HB.out)
    clear BK143
    clear HB
    have BK143 := n0_
    have HB := n1_
    clear n0_ n1_
    refine start_ (n := 14) (S := fun w' => w'.cell? ⟨gb143, 0, none⟩ = some (.int .i64 a0_0) ∧ w'.cell? ⟨gb143, 1, none⟩ = some (.int .i64 a0_1) ∧ w'.cell? ⟨gb143, 2, none⟩ = some (.int .i64 a0_2)) (ds := []) #[false, false, false, false, false, false, false, false, false, false, false, false, false, false] (by kernel_rfl) rfl rfl ⟨(blk_cell BK143.out 0).trans rfl, (blk_cell BK143.out 1).trans rfl, (blk_cell BK143.out 2).trans rfl⟩ (fun hHeld => ?_); refine with_tabW arrearsref05_Right.tab1 arrearsref05_Right.bits1 (fun HT_ HW_ => ?_)
    generalize w4.drew = w5 at BK143 HB hHeld ⊢
    refine pure_ (i := 0) (N := some 3) (v := ?_) (a' := ?_) #[true, false, false, false, false, false, false, false, false, false, false, false, false, false] rfl rfl (any_of HT_.out (by kernel_rfl)) (fun _ _ _ h => h) (Or.inl ⟨by rfl, ?_⟩) ?_ ?_
    rotate_left
    · intro w'
      go_simp
      with_reducible rfl
    rotate_left
    · simp only [Act.put, List.setIfInBounds_toArray, List.set_cons_zero, List.set_cons_succ, i64_w, i32_w]
      rfl
    refine take_ (i := 1) (N := some 4) (v := ?_) (a' := ?_) #[true, true, false, false, false, false, false, false, false, false, false, false, false, false] rfl rfl (take_ofW HT_.out HW_.out (by kernel_rfl)) (fun _ _ _ h => h) (Or.inl ⟨by rfl, ?_⟩) hHeld ?_ ?_
    rotate_left
    · rintro w' ⟨s0, s1, s2⟩
      go_simp
      with_reducible rfl
    rotate_left
    · simp only [Act.put, List.setIfInBounds_toArray, List.set_cons_zero, List.set_cons_succ, i64_w, i32_w]
      rfl
    refine pure_ (i := 2) (N := some 5) (v := ?_) (a' := ?_) #[true, true, true, false, false, false, false, false, false, false, false, false, false, false] rfl rfl (any_of HT_.out (by kernel_rfl)) (fun _ _ _ h => h) (Or.inl ⟨by rfl, ?_⟩) ?_ ?_
    rotate_left
    · intro w'
      go_simp
      with_reducible rfl
    rotate_left
    · simp only [Act.put, List.setIfInBounds_toArray, List.set_cons_zero, List.set_cons_succ, i64_w, i32_w]
      rfl
    refine pure_ (i := 3) (N := some 6) (v := ?_) (a' := ?_) #[true, true, true, true, false, false, false, false, false, false, false, false, false, false] rfl rfl (any_of HT_.out (by kernel_rfl)) (fun _ _ _ h => h) (Or.inl ⟨by rfl, ?_⟩) ?_ ?_
    rotate_left
    · intro w'
      go_simp
      with_reducible rfl
    rotate_left
    · simp only [Act.put, List.setIfInBounds_toArray, List.set_cons_zero, List.set_cons_succ, i64_w, i32_w]
      rfl
    refine pure_ (i := 4) (N := some 7) (v := ?_) (a' := ?_) #[true, true, true, true, true, false, false, false, false, false, false, false, false, false] rfl rfl (any_of HT_.out (by kernel_rfl)) (fun _ _ _ h => h) (Or.inl ⟨by rfl, ?_⟩) ?_ ?_
    rotate_left
    · intro w'
      go_simp
      with_reducible rfl
    rotate_left
    · simp only [Act.put, List.setIfInBounds_toArray, List.set_cons_zero, List.set_cons_succ, i64_w, i32_w]
      rfl
    refine pure_ (i := 6) (N := some 9) (v := ?_) (a' := ?_) #[true, true, true, true, true, false, true, false, false, false, false, false, false, false] rfl rfl (any_of HT_.out (by kernel_rfl)) (fun _ _ _ h => h) (Or.inl ⟨by rfl, ?_⟩) ?_ ?_
    rotate_left
    · intro w'
      go_simp
      with_reducible rfl
    rotate_left
    · simp only [Act.put, List.setIfInBounds_toArray, List.set_cons_zero, List.set_cons_succ, i64_w, i32_w]
      rfl
    refine pure_ (i := 8) (N := some 11) (v := ?_) (a' := ?_) #[true, true, true, true, true, false, true, false, true, false, false, false, false, false] rfl rfl (any_of HT_.out (by kernel_rfl)) (fun _ _ _ h => h) (Or.inl ⟨by rfl, ?_⟩) ?_ ?_
    rotate_left
    · intro w'
      go_simp
      with_reducible rfl
    rotate_left
    · simp only [Act.put, List.setIfInBounds_toArray, List.set_cons_zero, List.set_cons_succ, i64_w, i32_w]
      rfl
    refine take_ (i := 5) (N := some 8) (v := ?_) (a' := ?_) #[true, true, true, true, true, true, true, false, true, false, false, false, false, false] rfl rfl (take_ofW HT_.out HW_.out (by kernel_rfl)) (fun _ _ _ h => h) (Or.inl ⟨by rfl, ?_⟩) hHeld ?_ ?_
    rotate_left
    · rintro w' ⟨s0, s1, s2⟩
      go_simp
      with_reducible rfl
    rotate_left
    · simp only [Act.put, List.setIfInBounds_toArray, List.set_cons_zero, List.set_cons_succ, i64_w, i32_w]
      rfl
    refine take_ (i := 7) (N := some 10) (v := ?_) (a' := ?_) #[true, true, true, true, true, true, true, true, true, false, false, false, false, false] rfl rfl (take_ofW HT_.out HW_.out (by kernel_rfl)) (fun _ _ _ h => h) (Or.inl ⟨by rfl, ?_⟩) hHeld ?_ ?_
    rotate_left
    · rintro w' ⟨s0, s1, s2⟩
      go_simp
      with_reducible rfl
    rotate_left
    · simp only [Act.put, List.setIfInBounds_toArray, List.set_cons_zero, List.set_cons_succ, i64_w, i32_w]
      rfl
    refine take_ (i := 9) (N := some 12) (v := ?_) (a' := ?_) #[true, true, true, true, true, true, true, true, true, true, false, false, false, false] rfl rfl (take_ofW HT_.out HW_.out (by kernel_rfl)) (fun _ _ _ h => h) (Or.inl ⟨by rfl, ?_⟩) hHeld ?_ ?_
    rotate_left
    · rintro w' ⟨s0, s1, s2⟩
      go_simp
      with_reducible rfl
    rotate_left
    · simp only [Act.put, List.setIfInBounds_toArray, List.set_cons_zero, List.set_cons_succ, i64_w, i32_w]
      rfl
    refine one_ (i := 10) (N := some 13) #[true, true, true, true, true, true, true, true, true, true, true, false, false, false] rfl rfl (one_of HT_.out (by kernel_rfl)) (by decide) (fun K hK => ?_)
    refine goes_ Tryd.func17 (by kernel_rfl) rfl #[.int .i64 a0_0, .int .i64 a0_1] (by rfl) rfl rfl (by (try simp only [List.map_toArray, List.map_cons, List.map_nil]); first | done | rfl | (simp only [List.length_drop, List.length_take]; rfl)) ?_
    with_reducible refine (arrearsref05_Length.calls k a0_0 a0_1 t144 _ A3.out).mono ?_
    rintro e w6 ⟨rfl, hb⟩
    refine ⟨_, rfl, ?_⟩
    have n0_ := Aside0.mk (blk_below (g := gb143) (o := .cells #[.int .i64 a0_0, .int .i64 a0_1, .int .i64 a0_2] 26 (0, 0)) (by (with_reducible repeat (first | refine blk_drewN ?_ _ | refine blk_drew ?_ | refine blk_alloc ?_ _)); exact BK143.out) hb)
    have n1_ := Aside0.mk (below_step (by repeat (first | (with_reducible first | exact HB.out | apply below_alloc | apply pw_below_drewN | apply below_drew1 | refine below_set ?_ GE143.out) | exact HB.out)) hb)
    clear BK143
    clear HB
    have BK143 := n0_
    have HB := n1_
    clear n0_ n1_
    (try clear hb)
    (try clear hb2)
    (try clear hk)
    (try clear hi)
    refine hK.out _ _ ⟨(blk_cell BK143.out 0).trans rfl, (blk_cell BK143.out 1).trans rfl, (blk_cell BK143.out 2).trans rfl⟩ (fun hHeld => ?_)
    clear hK K
    refine norm_ (a' := ?_) ?_ ?_
    rotate_left
    · show Act.put _ (some 13) _ = _
      simp only [Act.put, List.setIfInBounds_toArray, List.set_cons_zero, List.set_cons_succ, i64_w, i32_w]
      rfl
    refine pure_ (i := 11) (N := some 14) (v := ?_) (a' := ?_) #[true, true, true, true, true, true, true, true, true, true, true, true, false, false] rfl rfl (any_of HT_.out (by kernel_rfl)) (fun _ _ _ h => h) (Or.inl ⟨by rfl, ?_⟩) ?_ ?_
    rotate_left
    · intro w'
      go_simp
      with_reducible rfl
    rotate_left
    · simp only [Act.put, List.setIfInBounds_toArray, List.set_cons_zero, List.set_cons_succ, i64_w, i32_w]
      rfl
    refine pure_ (i := 12) (N := some 15) (v := ?_) (a' := ?_) #[true, true, true, true, true, true, true, true, true, true, true, true, true, false] rfl rfl (any_of HT_.out (by kernel_rfl)) (fun _ _ _ h => h) (Or.inl ⟨by rfl, ?_⟩) ?_ ?_
    rotate_left
    · intro w'
      go_simp
      with_reducible rfl
    rotate_left
    · simp only [Act.put, List.setIfInBounds_toArray, List.set_cons_zero, List.set_cons_succ, i64_w, i32_w]
      rfl
    refine pure_ (i := 13) (N := some 2) (v := ?_) (a' := ?_) #[true, true, true, true, true, true, true, true, true, true, true, true, true, true] rfl rfl (any_of HT_.out (by kernel_rfl)) (fun _ _ _ h => h) (Or.inl ⟨by rfl, ?_⟩) ?_ ?_
    rotate_left
    · intro w'
      go_simp
      with_reducible rfl
    rotate_left
    · simp only [Act.put, List.setIfInBounds_toArray, List.set_cons_zero, List.set_cons_succ, i64_w, i32_w]
      rfl
    refine done_ (done_of HT_.out (by kernel_rfl)) ?_
    (try simp only [errW_none, errW_some])
    try go_wp2
    go_ret
    exact ⟨by first | rfl | (simp [errW_none, errW_some] <;> rfl) | (simp [*, errW_none, errW_some] <;> rfl), by repeat (first | (with_reducible first | exact HB.out | apply below_alloc | apply pw_below_drewN | apply below_drew1 | refine below_set ?_ GE143.out) | exact HB.out)⟩
  · rw [if_neg c2] at H
    have c2b0 : decide (0 < a0_2) = false := decide_eq_false c2
    clear c2
    obtain rfl := Option.some.inj H
    go_enter Tryd.func10, Tryd.ntmps10
    try go_wp2_with (first | ((with_reducible refine gate_dst (N := 1) rfl ?_); refine box_event ?hg (N := 1) ?hd (cs := #[.int .i64 a0_0, .int .i64 a0_1, .int .i64 a0_2]) (t := 26) ?hr ?_; (case hd => rfl); (case hg => rfl); (case hr => first | (go_simp; done) | (go_simp; rfl)); intro gb143 hg w7 hbox hb; have n0_ := Aside0.mk (below_step (by repeat (first | (with_reducible first | exact HB.out | apply below_alloc | apply pw_below_drewN | apply below_drew1) | exact HB.out)) hb); have n1_ := Aside0.mk (hbox); have n2_ := Aside0.mk ((by rw [hg]; exact (below_size (by repeat (first | (with_reducible first | exact HB.out | apply below_alloc | apply pw_below_drewN | apply below_drew1) | exact HB.out))) : w.heap.size ≤ gb143)); have n3_ := Aside0.mk ((by rw [hg]; exact (below_size (by repeat (first | (with_reducible first | exact HB.out | apply below_alloc | apply pw_below_drewN | apply below_drew1) | exact HB.out))) : w.heap.size ≤ gb143)); clear HB; have HB := n0_; have BK143 := n1_; have GW143 := n2_; have GE143 := n3_; clear n0_ n1_ n2_ n3_; clear hb hbox hg))
    have n0_ := Aside0.mk (blk_drew BK143.out)
    have n1_ := Aside0.mk (below_drew1 HB.out)
    clear BK143
    clear HB
    have BK143 := n0_
    have HB := n1_
    clear n0_ n1_
    refine start_ (n := 14) (S := fun w' => w'.cell? ⟨gb143, 0, none⟩ = some (.int .i64 a0_0) ∧ w'.cell? ⟨gb143, 1, none⟩ = some (.int .i64 a0_1) ∧ w'.cell? ⟨gb143, 2, none⟩ = some (.int .i64 a0_2)) (ds := []) #[false, false, false, false, false, false, false, false, false, false, false, false, false, false] (by kernel_rfl) rfl rfl ⟨(blk_cell BK143.out 0).trans rfl, (blk_cell BK143.out 1).trans rfl, (blk_cell BK143.out 2).trans rfl⟩ (fun hHeld => ?_); refine with_tabW arrearsref05_Right.tab1 arrearsref05_Right.bits1 (fun HT_ HW_ => ?_)
    generalize w7.drew = w8 at BK143 HB hHeld ⊢
    refine pure_ (i := 0) (N := some 3) (v := ?_) (a' := ?_) #[true, false, false, false, false, false, false, false, false, false, false, false, false, false] rfl rfl (any_of HT_.out (by kernel_rfl)) (fun _ _ _ h => h) (Or.inl ⟨by rfl, ?_⟩) ?_ ?_
    rotate_left
    · intro w'
      go_simp
      with_reducible rfl
    rotate_left
    · simp only [Act.put, List.setIfInBounds_toArray, List.set_cons_zero, List.set_cons_succ, i64_w, i32_w]
      rfl
    refine take_ (i := 1) (N := some 4) (v := ?_) (a' := ?_) #[true, true, false, false, false, false, false, false, false, false, false, false, false, false] rfl rfl (take_ofW HT_.out HW_.out (by kernel_rfl)) (fun _ _ _ h => h) (Or.inl ⟨by rfl, ?_⟩) hHeld ?_ ?_
    rotate_left
    · rintro w' ⟨s0, s1, s2⟩
      go_simp
      with_reducible rfl
    rotate_left
    · simp only [Act.put, List.setIfInBounds_toArray, List.set_cons_zero, List.set_cons_succ, i64_w, i32_w]
      rfl
    refine pure_ (i := 2) (N := some 5) (v := ?_) (a' := ?_) #[true, true, true, false, false, false, false, false, false, false, false, false, false, false] rfl rfl (any_of HT_.out (by kernel_rfl)) (fun _ _ _ h => h) (Or.inl ⟨by rfl, ?_⟩) ?_ ?_
    rotate_left
    · intro w'
      go_simp
      with_reducible rfl
    rotate_left
    · simp only [Act.put, List.setIfInBounds_toArray, List.set_cons_zero, List.set_cons_succ, i64_w, i32_w]
      rfl
    refine pure_ (i := 3) (N := some 6) (v := ?_) (a' := ?_) #[true, true, true, true, false, false, false, false, false, false, false, false, false, false] rfl rfl (any_of HT_.out (by kernel_rfl)) (fun _ _ _ h => h) (Or.inl ⟨by rfl, ?_⟩) ?_ ?_
    rotate_left
    · intro w'
      go_simp
      with_reducible rfl
    rotate_left
    · simp only [Act.put, List.setIfInBounds_toArray, List.set_cons_zero, List.set_cons_succ, i64_w, i32_w]
      rfl
    refine pure_ (i := 4) (N := some 7) (v := undef) (a' := ?_) #[true, true, true, true, true, false, false, false, false, false, false, false, false, false] rfl rfl (any_of HT_.out (by kernel_rfl)) (fun _ _ _ h => h) (Or.inr ⟨by rfl, rfl⟩) ?_ ?_
    rotate_left
    · simp only [Act.put, List.setIfInBounds_toArray, List.set_cons_zero, List.set_cons_succ, i64_w, i32_w]
      rfl
    refine pure_ (i := 5) (N := some 8) (v := undef) (a' := ?_) #[true, true, true, true, true, true, false, false, false, false, false, false, false, false] rfl rfl (any_of HT_.out (by kernel_rfl)) (fun _ _ _ h => h) (Or.inr ⟨by rfl, rfl⟩) ?_ ?_
    rotate_left
    · simp only [Act.put, List.setIfInBounds_toArray, List.set_cons_zero, List.set_cons_succ, i64_w, i32_w]
      rfl
    refine pure_ (i := 6) (N := some 9) (v := undef) (a' := ?_) #[true, true, true, true, true, true, true, false, false, false, false, false, false, false] rfl rfl (any_of HT_.out (by kernel_rfl)) (fun _ _ _ h => h) (Or.inr ⟨by rfl, rfl⟩) ?_ ?_
    rotate_left
    · simp only [Act.put, List.setIfInBounds_toArray, List.set_cons_zero, List.set_cons_succ, i64_w, i32_w]
      rfl
    refine pure_ (i := 7) (N := some 10) (v := undef) (a' := ?_) #[true, true, true, true, true, true, true, true, false, false, false, false, false, false] rfl rfl (any_of HT_.out (by kernel_rfl)) (fun _ _ _ h => h) (Or.inr ⟨by rfl, rfl⟩) ?_ ?_
    rotate_left
    · simp only [Act.put, List.setIfInBounds_toArray, List.set_cons_zero, List.set_cons_succ, i64_w, i32_w]
      rfl
    refine pure_ (i := 8) (N := some 11) (v := undef) (a' := ?_) #[true, true, true, true, true, true, true, true, true, false, false, false, false, false] rfl rfl (any_of HT_.out (by kernel_rfl)) (fun _ _ _ h => h) (Or.inr ⟨by rfl, rfl⟩) ?_ ?_
    rotate_left
    · simp only [Act.put, List.setIfInBounds_toArray, List.set_cons_zero, List.set_cons_succ, i64_w, i32_w]
      rfl
    refine pure_ (i := 9) (N := some 12) (v := undef) (a' := ?_) #[true, true, true, true, true, true, true, true, true, true, false, false, false, false] rfl rfl (any_of HT_.out (by kernel_rfl)) (fun _ _ _ h => h) (Or.inr ⟨by rfl, rfl⟩) ?_ ?_
    rotate_left
    · simp only [Act.put, List.setIfInBounds_toArray, List.set_cons_zero, List.set_cons_succ, i64_w, i32_w]
      rfl
    refine pure_ (i := 10) (N := some 13) (v := undef) (a' := ?_) #[true, true, true, true, true, true, true, true, true, true, true, false, false, false] rfl rfl (any_of HT_.out (by kernel_rfl)) (fun _ _ _ h => h) (Or.inr ⟨by rfl, rfl⟩) ?_ ?_
    rotate_left
    · simp only [Act.put, List.setIfInBounds_toArray, List.set_cons_zero, List.set_cons_succ, i64_w, i32_w]
      rfl
    refine pure_ (i := 11) (N := some 14) (v := undef) (a' := ?_) #[true, true, true, true, true, true, true, true, true, true, true, true, false, false] rfl rfl (any_of HT_.out (by kernel_rfl)) (fun _ _ _ h => h) (Or.inr ⟨by rfl, rfl⟩) ?_ ?_
    rotate_left
    · simp only [Act.put, List.setIfInBounds_toArray, List.set_cons_zero, List.set_cons_succ, i64_w, i32_w]
      rfl
    refine pure_ (i := 12) (N := some 15) (v := ?_) (a' := ?_) #[true, true, true, true, true, true, true, true, true, true, true, true, true, false] rfl rfl (any_of HT_.out (by kernel_rfl)) (fun _ _ _ h => h) (Or.inl ⟨by rfl, ?_⟩) ?_ ?_
    rotate_left
    · intro w'
      go_simp
      with_reducible rfl
    rotate_left
    · simp only [Act.put, List.setIfInBounds_toArray, List.set_cons_zero, List.set_cons_succ, i64_w, i32_w]
      rfl
    refine pure_ (i := 13) (N := some 2) (v := ?_) (a' := ?_) #[true, true, true, true, true, true, true, true, true, true, true, true, true, true] rfl rfl (any_of HT_.out (by kernel_rfl)) (fun _ _ _ h => h) (Or.inl ⟨by rfl, ?_⟩) ?_ ?_
    rotate_left
    · intro w'
      go_simp
      with_reducible rfl
    rotate_left
    · simp only [Act.put, List.setIfInBounds_toArray, List.set_cons_zero, List.set_cons_succ, i64_w, i32_w]
      rfl
    refine done_ (done_of HT_.out (by kernel_rfl)) ?_
    (try simp only [errW_none, errW_some])
    try go_wp2
    go_ret
    exact ⟨by first | rfl | (simp [errW_none, errW_some] <;> rfl) | (simp [*, errW_none, errW_some] <;> rfl), by repeat (first | (with_reducible first | exact HB.out | apply below_alloc | apply pw_below_drewN | apply below_drew1 | refine below_set ?_ GE143.out) | exact HB.out)⟩

end Go.Proofs.YtbgjeelbbmcpeaaDoor.PDateReads
