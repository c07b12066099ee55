import Derived.Test.YtdojgjbiilnjpaaDoorMquilm
set_option linter.unusedVariables false
set_option linter.unusedSimpArgs false
namespace Go.Proofs.YtdojgjbiilnjpaaDoor.M
open Go.RowKit Go.Proofs.YtdojgjbiilnjpaaDoorW.PrintWords Go.Proofs.YtdojgjbiilnjpaaDoorW.PrintLast Go.Proofs.YtdojgjbiilnjpaaDoorW.PrintMore
set_option maxHeartbeats 4000000 in
set_option maxRecDepth 100000 in
theorem lens_number_ok (N g : Nat) (h : Int) (r : List Int) (w : World) (hlong : h % 128 ≤ (r.length : Int)) (h8 : h % 128 ≤ 8) (hz : ¬ (0 < h % 128 ∧ rd r 0 = 0)) (hL : Le N w g (some (h :: r))) :
    Calls Tryd.prog 30 #[.pointer (some ⟨g, 0, none⟩)] w fun e w' => e = .returned (.tuple #[.int .u64 (val (r.take (h % 128).toNat)), .bool (decide (h ≥ 128))]) ∧ LDone N w g (some (r.drop (h % 128).toNat)) w' := by
  obtain ⟨A, c, hL⟩ := hL
  obtain ⟨b, o, cur, rfl, hb1, hb2, hb3⟩ := hL.row (by simp)
  have hb0 := hL.rng h (List.mem_cons_self ..)
  have ean : bits .andNot .u8 h 128 = h % 128 := andNot128 h hb0.1 hb0.2
  have HC := Aside0.mk (lens_take_ok N g (h :: r) (some ⟨b, o, none⟩) c 1 w (by omega) (by simp; omega) hL)
  have HRNG := Aside0.mk (fun x hx => hL.rng x (List.mem_cons_of_mem _ hx))
  obtain ⟨k, hk⟩ : ∃ k, k = h % 128 := ⟨_, rfl⟩
  rw [← hk] at ean hlong h8 hz ⊢
  have hk0 : 0 ≤ k ∧ k < 128 := by omega
  have hkw : wrap64 k = k := by unfold wrap64; omega
  have HL1 := Aside0.mk hlong
  have HK := Aside0.mk hk
  have HB := Aside0.mk hb0
  have hh0 : 0 ≤ h := hb0.1
  have hh1 : h ≤ 255 := hb0.2
  have HZ := Aside0.mk hz
  clear hL hb2 hb3 hlong hk hb0 hz
  have h8' : ¬ 8 < k := by omega
  by_cases hkp : 0 < k
  · go_enter Tryd.func30, Tryd.ntmps30
    go_wp2_with (first | (go_at_call 32; (with_reducible refine HC.out.mono ?_); rintro e w5 ⟨rfl, hd, hr⟩; have hc5 : w5.cell? ⟨b, o, none⟩ = some (.int .u8 h) := RowB.cell hr 0 (by simp); have HD := Aside0.mk hd; have HR1 := Aside0.mk hr; clear hd hr; obtain ⟨A2, c2, hL2⟩ := HD.out.1; have hne : r ≠ [] := (by rintro rfl; have := HL1.out; simp at this; omega); obtain ⟨b2, o2, cur2, rfl, hbn, hbb, hbc⟩ := hL2.row hne; have HL2 := Aside0.mk hL2; clear hL2 hne hbn hbb hbc) | (go_at_call 32; refine (lens_take_ok N g r (some ⟨b2, o2, none⟩) c2 k w5 (by omega) HL1.out HL2.out).mono ?_; rintro e w6 ⟨rfl, hd, hr⟩; have hc6 : w6.cell? ⟨b2, o2, none⟩ = some (.int .u8 (rd r 0)) := (by have hl1 := HL1.out; exact RowB.head hr (by omega) (by omega)); have hc6h : w6.cell? ⟨b, o, none⟩ = some (.int .u8 h) := RowB.cell (RowB.keep HR1.out hd.2 HL2.out.blk_ne) 0 (by simp); have hrd0 : (rd r 0 == 0) = false := (by have := HZ.out; simp; intro e; exact this ⟨hkp, e⟩); have HD2 := Aside0.mk hd; have HR2 := Aside0.mk hr; clear hd hr hc5))
    go_loopg [8, 49] k.toNat (fun gg v8 v49 w' => ∃ (i X : Int), v8 = .int .u64 X ∧ v49 = .int .i64 i ∧ w6 = w' ∧ Aside0 (∃ j : Nat, i = (j : Nat) ∧ j ≤ k.toNat ∧ X = val ((r.take k.toNat).take j) ∧ k.toNat - j ≤ gg))
    case atStart => exact ⟨0, 0, rfl, rfl, rfl, ⟨0, rfl, Nat.zero_le _, rfl, by omega⟩⟩
    case round =>
      obtain ⟨i, X, rfl, rfl, rfl, HI⟩ := hrel
      have hln : (r.take k.toNat).length = k.toNat := by have := HL1.out; rw [List.length_take]; omega
      have hrg : ∀ x ∈ r.take k.toNat, 0 ≤ x ∧ x ≤ 255 := fun x hx => HRNG.out x (List.mem_of_mem_take hx)
      have HLN := Aside0.mk hln
      have HRG := Aside0.mk hrg
      clear hln hrg hc6
      have hi0 : 0 ≤ i := by obtain ⟨j, h1, h2, _⟩ := HI.out; omega
      have hi8 : i ≤ 8 := by obtain ⟨j, h1, h2, _⟩ := HI.out; omega
      have hiw := Aside0.mk (show wrap64 (i + 1) = i + 1 by unfold wrap64; omega)
      by_cases hlt : i < k
      · obtain ⟨B, hB0, hB1, hBc, hBx, hX0, hX1⟩ : ∃ B : Int, 0 ≤ B ∧ B ≤ 255 ∧ w6.cell? ⟨b2, o2 + i.toNat, none⟩ = some (.int .u8 B) ∧ Aside0 (∀ j : Nat, i = (j : Nat) → val ((r.take k.toNat).take (j + 1)) = val ((r.take k.toNat).take j) * 256 + B) ∧ 0 ≤ X ∧ X < 72057594037927936 := by
          obtain ⟨j, hj1, hj2, hj3, _⟩ := HI.out
          have hjl : j < (r.take k.toNat).length := by rw [HLN.out]; omega
          have hm := HRG.out _ (List.getElem_mem hjl)
          refine ⟨(r.take k.toNat)[j], hm.1, hm.2, ?_, ⟨fun j' hj' => ?_⟩, ?_⟩
          · have q := RowB.cell HR2.out j hjl
            rw [show i.toNat = j by omega, q]
            simp [List.getD_eq_getElem?_getD, List.getElem?_eq_getElem hjl]
          · obtain rfl : j' = j := by omega
            rw [List.take_succ_eq_append_getElem hjl, val_snoc]
          · rw [hj3]
            have hbd := val_bd ((r.take k.toNat).take j) (fun x hx => HRG.out x (List.mem_of_mem_take hx))
            have hb7 := val_bd8 ((r.take k.toNat).take j) (fun x hx => HRG.out x (List.mem_of_mem_take hx)) 7 (by rw [List.length_take]; omega)
            exact ⟨hbd.1, hb7⟩
        have hor : bits .or .u64 (X * 256) B = X * 256 + B := by
          have := or64b X.toNat B.toNat (by omega) (by omega)
          rwa [Int.toNat_of_nonneg hX0, Int.toNat_of_nonneg hB0] at this
        have hw1 : IntKind.u64.wrap (X * 256) = X * 256 := by rw [IntKind.wrap_u64]; omega
        have hw2 : IntKind.u64.wrap B = B := by rw [IntKind.wrap_u64]; omega
        have hp8 : (2 : Int) ^ 8 = 256 := by decide
        go_wp2
        go_roundg (gk - 1)
        case measure => obtain ⟨j, h1, h2, h3, h4⟩ := HI.out; omega
        case rel =>
          refine ⟨i + 1, X * 256 + B, rfl, by first | rfl | rw [hiw.out], rfl, ⟨?_⟩⟩
          obtain ⟨j, h1, h2, h3, h4⟩ := HI.out
          exact ⟨j + 1, by omega, by omega, by rw [hBx.out j h1, ← h3], by omega⟩
      · have hX : X = val (r.take k.toNat) := by
          obtain ⟨j, h1, h2, h3, h4⟩ := HI.out
          rw [h3, List.take_of_length_le (by rw [HLN.out]; omega)]
        subst hX
        go_wp2
        repeat (go_quiet (fail); try go_wp2)
        go_ret2
        exact ⟨rfl, Le.below HD2.out.1 (pw_below_drewN (Below.refl _ _) _), (HD.out.2.trans HD2.out.2 (.inl rfl)).below (pw_below_drewN (Below.refl _ _) _)⟩
  · obtain rfl : k = 0 := by omega
    clear h8 h8' hk0 hkw hkp
    simp only [Int.toNat_zero, List.take_zero, List.drop_zero]
    go_enter Tryd.func30, Tryd.ntmps30
    go_wp2_with (first | (go_at_call 32; (with_reducible refine HC.out.mono ?_); rintro e w5 ⟨rfl, hd, hr⟩; have hc5 : w5.cell? ⟨b, o, none⟩ = some (.int .u8 h) := RowB.cell hr 0 (by simp); have HD := Aside0.mk hd; have HR1 := Aside0.mk hr; clear hd hr; obtain ⟨A2, c2, hL2⟩ := HD.out.1; have HL2 := Aside0.mk hL2; clear hL2) | (go_at_call 32; refine (lens_take_ok N g r A2 c2 0 w5 (by omega) (by omega) HL2.out).mono ?_; rintro e w6 ⟨rfl, hd, hr⟩; have hc6h : w6.cell? ⟨b, o, none⟩ = some (.int .u8 h) := RowB.cell (RowB.keep HR1.out hd.2 HL2.out.blk_ne) 0 (by simp); have HD2 := Aside0.mk hd; clear hd hr hc5))
    go_loopg [8, 49] 0 (fun gg v8 v49 w' => v8 = .int .u64 0 ∧ v49 = .int .i64 0 ∧ w6 = w')
    case atStart => exact ⟨rfl, rfl, rfl⟩
    case round =>
      obtain ⟨rfl, rfl, rfl⟩ := hrel
      go_wp2
      repeat (go_quiet (fail); try go_wp2)
      go_ret2
      exact ⟨rfl, Le.below HD2.out.1 (pw_below_drewN (Below.refl _ _) _), (HD.out.2.trans HD2.out.2 (.inl rfl)).below (pw_below_drewN (Below.refl _ _) _)⟩
theorem inum_cons (h : Int) (r : List Int) : inum (h :: r) = if 8 < h % 128 ∨ (r.length : Int) < h % 128 ∨ (0 < h % 128 ∧ rd r 0 = 0) then none else some (val (r.take (h % 128).toNat), decide (h ≥ 128), r.drop (h % 128).toNat) := rfl
/-- A number is read off the front, or nothing is right any more. -/
def numOf (s : Option (List Int)) : Option (Int × Bool × List Int) := s.bind inum
theorem lens_number (N g : Nat) (s : Option (List Int)) (w : World) (h : Le N w g s) :
    Calls Tryd.prog 30 #[.pointer (some ⟨g, 0, none⟩)] w fun e w' =>
      e = .returned (.tuple #[.int .u64 (match numOf s with | some (n, _, _) => n | none => 0), .bool (match numOf s with | some (_, m, _) => m | none => false)]) ∧ LDone N w g (match numOf s with | some (_, _, r) => some r | none => none) w' := by
  rcases s with _ | l
  · exact lens_number_not N g none w (fun l e => by cases e) h
  · rcases l with _ | ⟨x, r⟩
    · exact lens_number_not N g (some []) w (fun l e => by injection e with e; exact e.symm) h
    · by_cases c1 : (r.length : Int) < x % 128
      · have e : numOf (some (x :: r)) = none := by
          show inum (x :: r) = none
          rw [inum_cons, if_pos (Or.inr (Or.inl c1))]
        rw [e]
        exact lens_number_long N g x r w c1 h
      · by_cases c2 : 8 < x % 128 ∨ (0 < x % 128 ∧ rd r 0 = 0)
        · have e : numOf (some (x :: r)) = none := by
            show inum (x :: r) = none
            rw [inum_cons, if_pos (c2.imp id Or.inr)]
          rw [e]
          exact lens_number_bad N g x r w (by omega) c2 h
        · have e : numOf (some (x :: r)) = some (val (r.take (x % 128).toNat), decide (x ≥ 128), r.drop (x % 128).toNat) := by
            show inum (x :: r) = _
            rw [inum_cons, if_neg (fun q => q.elim (fun q => c2 (Or.inl q)) (fun q => q.elim c1 (fun q => c2 (Or.inr q))))]
          rw [e]
          exact lens_number_ok N g x r w (by omega) (by omega) (fun q => c2 (Or.inr q)) h

end Go.Proofs.YtdojgjbiilnjpaaDoor.M
