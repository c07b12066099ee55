import Derived.Test.YtdojgjbiilnjpaaDoorMquilmath
set_option linter.unusedVariables false
set_option linter.unusedSimpArgs false
namespace Go.Proofs.YtdojgjbiilnjpaaDoor.M
open Go.RowKit Go.Proofs.YtdojgjbiilnjpaaDoorW.PrintWords Go.Proofs.YtdojgjbiilnjpaaDoorW.PrintLast Go.Proofs.YtdojgjbiilnjpaaDoorW.PrintMore
set_option maxHeartbeats 4000000 in
set_option maxRecDepth 100000 in
theorem ref_number_nil (A : Option Addr) (c : Nat) (w : World) :
    Calls Tryd.prog 27 #[.slice A 0 c] w fun e w' => e = .returned (.tuple #[.int .u64 0, .bool false, .slice none 0 0, .bool false]) ∧ ∃ m, w' = w.drewN m := by
  go_enter Tryd.func27, Tryd.ntmps27
  go_wp2
  refine bodyPost_ret (results_list (rs := [.tmp 2, .tmp 3, .tmp 4, .tmp 5]) rfl (by simp) (.tmp (.tmp (.tmp (.tmp .nil))))) rfl ?_
  exact ⟨rfl, 0, rfl⟩
set_option maxHeartbeats 4000000 in
set_option maxRecDepth 100000 in
theorem ref_number_bad (N b o n c : Nat) (h : Int) (r : List Int) (w : World) (hn : n = r.length + 1) (hc : n ≤ c) (hl : n ≤ 1000000) (hh : 0 ≤ h ∧ h ≤ 255) (hR : RowB N w (some ⟨b, o, none⟩) (h :: r)) (hbad : 8 < h % 128 ∨ (r.length : Int) < h % 128 ∨ (0 < h % 128 ∧ rd r 0 = 0)) :
    Calls Tryd.prog 27 #[.slice (some ⟨b, o, none⟩) n c] w fun e w' => e = .returned (.tuple #[.int .u64 0, .bool false, .slice none 0 0, .bool false]) ∧ ∃ m, w' = w.drewN m := by
  have hc0 : w.cell? ⟨b, o, none⟩ = some (.int .u8 h) := RowB.cell hR 0 (by simp)
  have hwh : wrap64 h = h := by unfold wrap64; omega
  obtain ⟨k, hk⟩ : ∃ k, k = h % 128 := ⟨_, rfl⟩
  have hkt : Int.tmod h 128 = k := by rw [hk]; exact Int.tmod_eq_emod_of_nonneg hh.1
  rw [← hk] at hbad
  have hk0 : 0 ≤ k := by omega
  have hk1 : k < 128 := by omega
  have hn0 : ((n : Int) == 0) = false := by simp; omega
  have hnp : 0 < (n : Int) := by omega
  have hn1 : wrap64 ((n : Int) - 1) = (n : Int) - 1 := by unfold wrap64; omega
  have HK := Aside0.mk hk
  have hrl : (r.length : Int) = (n : Int) - 1 := by omega
  rw [hrl] at hbad
  by_cases c8 : 8 < k
  · clear hbad hn hk hR hrl
    go_enter Tryd.func27, Tryd.ntmps27
    go_wp2
    refine bodyPost_ret (results_list (rs := [.tmp 2, .tmp 3, .tmp 4, .tmp 5]) rfl (by simp) (.tmp (.tmp (.tmp (.tmp .nil))))) rfl ?_
    exact ⟨rfl, 0, rfl⟩
  · by_cases cl : (n : Int) - 1 < k
    · clear hbad hn hk hR hrl
      go_enter Tryd.func27, Tryd.ntmps27
      go_wp2
      refine bodyPost_ret (results_list (rs := [.tmp 2, .tmp 3, .tmp 4, .tmp 5]) rfl (by simp) (.tmp (.tmp (.tmp (.tmp .nil))))) rfl ?_
      exact ⟨rfl, 0, rfl⟩
    · have hz : 0 < k ∧ rd r 0 = 0 := by omega
      have hkp := hz.1
      have hn2 : 1 < (n : Int) := by omega
      have hc1 : w.cell? ⟨b, o + 1, none⟩ = some (.int .u8 0) := by
        have q := RowB.cell hR 1 (by rw [List.length_cons]; omega)
        rcases r with _ | ⟨x, r⟩
        · simp at hn; omega
        · have hz2 := hz.2
          simp [rd] at hz2
          subst hz2
          simpa using q
      clear hbad hn hk hR hrl hz
      go_enter Tryd.func27, Tryd.ntmps27
      go_wp2
      refine bodyPost_ret (results_list (rs := [.tmp 2, .tmp 3, .tmp 4, .tmp 5]) rfl (by simp) (.tmp (.tmp (.tmp (.tmp .nil))))) rfl ?_
      exact ⟨rfl, 0, rfl⟩
set_option maxHeartbeats 4000000 in
set_option maxRecDepth 100000 in
theorem ref_number_ok (N b o n c : Nat) (h : Int) (r : List Int) (w : World) (hn : n = r.length + 1) (hc : n ≤ c) (hl : n ≤ 1000000) (hh : ∀ x ∈ h :: r, 0 ≤ x ∧ x ≤ 255) (hR : RowB N w (some ⟨b, o, none⟩) (h :: r)) (h8 : ¬ 8 < h % 128) (hlg : ¬ (r.length : Int) < h % 128) (hz : ¬ (0 < h % 128 ∧ rd r 0 = 0)) :
    Calls Tryd.prog 27 #[.slice (some ⟨b, o, none⟩) n c] w fun e w' => ∃ A' c', e = .returned (.tuple #[.int .u64 (val (r.take (h % 128).toNat)), .bool (decide (h ≥ 128)), .slice A' (r.drop (h % 128).toNat).length c', .bool true]) ∧ (r.drop (h % 128).toNat).length ≤ c' ∧ RowB N w A' (r.drop (h % 128).toNat) ∧ ∃ m, w' = w.drewN m := by
  obtain ⟨i0, hi, hzz⟩ := Option.map_eq_some_iff.1 byt_info
  simp only [Prod.mk.injEq] at hzz
  obtain ⟨hz0, hz1, hz2⟩ := hzz
  have hel : Tryd.prog.elem 22 = 5 := by simp [Program.elem, Tryd.underlying22]
  have hu : Tryd.prog.underlying 22 = some (.slice (Tryd.prog.elem 22)) := by rw [hel]; exact Tryd.underlying22
  have hh0 := hh h (List.mem_cons_self ..)
  have hc0 : w.cell? ⟨b, o, none⟩ = some (.int .u8 h) := RowB.cell hR 0 (by simp)
  have hwh : wrap64 h = h := by unfold wrap64; omega
  obtain ⟨k, hk⟩ : ∃ k, k = h % 128 := ⟨_, rfl⟩
  have hkt : Int.tmod h 128 = k := by rw [hk]; exact Int.tmod_eq_emod_of_nonneg hh0.1
  rw [← hk] at h8 hlg hz ⊢
  have hk0 : 0 ≤ k := by omega
  have hk1 : k < 128 := by omega
  have hn0 : ((n : Int) == 0) = false := by simp; omega
  have hnp : 0 < (n : Int) := by omega
  have hn1 : wrap64 ((n : Int) - 1) = (n : Int) - 1 := by unfold wrap64; omega
  have hkw : wrap64 (1 + k) = 1 + k := by unfold wrap64; omega
  have hcl : ¬ (n : Int) - 1 < k := by omega
  have hgt : decide (127 < h) = decide (h ≥ 128) := decide_eq_decide.2 ⟨fun _ => by omega, fun _ => by omega⟩
  have h127 : (127 < h ↔ 128 ≤ h) := ⟨fun _ => by omega, fun _ => by omega⟩
  have hrow := hR.cut (1 + k.toNat) c (by rw [List.length_cons]; omega) (by rw [List.length_cons]; omega)
  have hdr : (h :: r).drop (1 + k.toNat) = r.drop k.toNat := by rw [Nat.add_comm, List.drop_succ_cons]
  rw [hdr] at hrow
  obtain ⟨A2, hA2⟩ : ∃ A', A' = (if c = 1 + k.toNat then some (⟨b, o, none⟩ : Addr) else (some (⟨b, o, none⟩ : Addr)).map (·.add (1 + k.toNat))) := ⟨_, rfl⟩
  rw [← hA2] at hrow
  have s2 : ∀ W : World, (Instr.slice 22 (.slice (some ⟨b, o, none⟩) n c) (some (.int .i64 (1 + k))) none none).run Tryd.prog W = .ok (.slice A2 (r.drop k.toNat).length (c - (1 + k.toNat))) W := fun W => by
    rw [run_slice_l W 22 (some ⟨b, o, none⟩) n c hu .i64 (1 + k) (by omega) (by omega), hel]
    have e1 : (1 + k).toNat = 1 + k.toNat := by omega
    have e2 : n - (1 + k.toNat) = (r.drop k.toNat).length := by rw [List.length_drop]; omega
    simp only [sizeOf, typeInfo, hi, hz1, sliced, Result.andThen, e1, Nat.mul_one, ← hA2, e2, Sem.run_bind, Sem.run_pure]
    simp [sizeOf, typeInfo, hi, hz1, hA2]
  have hdl : (r.drop k.toNat).length ≤ c - (1 + k.toNat) := by rw [List.length_drop]; omega
  have HROW := Aside0.mk hrow
  have HDL := Aside0.mk hdl
  have HRNG := Aside0.mk (fun x hx => hh x (List.mem_cons_of_mem _ hx))
  have hln : (r.take k.toNat).length = k.toNat := by rw [List.length_take]; omega
  have HLN := Aside0.mk hln
  by_cases hkp : 0 < k
  · have hc1 : w.cell? ⟨b, o + 1, none⟩ = some (.int .u8 (rd r 0)) := by
      have q := RowB.cell hR 1 (by rw [List.length_cons]; omega)
      have e : (h :: r).getD 1 0 = rd r 0 := by simp [rd]
      rw [e] at q
      exact q
    have hrd0 : (rd r 0 == 0) = false := by simp; exact fun e => hz ⟨hkp, e⟩
    have hn2 : 1 < (n : Int) := by omega
    have s1 : ∀ W : World, (Instr.slice 22 (.slice (some ⟨b, o, none⟩) n c) (some (.int .i64 1)) (some (.int .i64 (1 + k))) none).run Tryd.prog W = .ok (.slice (some ⟨b, o + 1, none⟩) k.toNat (c - 1)) W := fun W => by
      rw [run_slice_lh W 22 (some ⟨b, o, none⟩) n c hu .i64 .i64 1 (1 + k) (by omega) (by omega) (by omega), hel]
      have e1 : (1 + k).toNat - Int.toNat 1 = k.toNat := by omega
      have e3 : ¬ c = Int.toNat 1 := by omega
      simp [sizeOf, typeInfo, hi, hz1, sliced, Result.andThen, addr_add]
      omega
    have hcell : ∀ j, j < k.toNat → w.cell? ⟨b, o + 1 + j, none⟩ = some (.int .u8 ((r.take k.toNat).getD j 0)) := fun j hj => by
      have q := RowB.cell hR (1 + j) (by rw [List.length_cons]; omega)
      rw [← Nat.add_assoc] at q
      rw [q, Nat.add_comm 1 j]
      simp [List.getD_eq_getElem?_getD, hj]
    have HCELL := Aside0.mk hcell
    clear hR hrow hdl hA2 hel hu hi hz0 hz1 hz2 hz hlg hh hk hdr hln hcell hgt hn
    go_enter Tryd.func27, Tryd.ntmps27
    go_wp2
    go_loopg [7, 42] k.toNat (fun gg v7 v42 wr => ∃ (i X : Int), v7 = .int .u64 X ∧ v42 = .int .i64 i ∧ w = wr ∧ Aside0 (∃ j : Nat, i = (j : Nat) ∧ j ≤ k.toNat ∧ X = val ((r.take k.toNat).take j) ∧ k.toNat - j ≤ gg))
    case atStart => exact ⟨0, 0, rfl, rfl, rfl, ⟨0, rfl, Nat.zero_le _, rfl, by omega⟩⟩
    case round =>
      obtain ⟨i, X, rfl, rfl, rfl, HI⟩ := hrel
      clear hc1
      have hrg : ∀ x ∈ r.take k.toNat, 0 ≤ x ∧ x ≤ 255 := fun x hx => HRNG.out x (List.mem_of_mem_take hx)
      have HRG := Aside0.mk hrg
      clear hrg
      have hi0 : 0 ≤ i := by obtain ⟨j, h1, h2, _⟩ := HI.out; omega
      have hk8 : k ≤ 8 := by omega
      have hi8 : i ≤ 8 := by obtain ⟨j, h1, h2, _⟩ := HI.out; omega
      have hiw := Aside0.mk (show wrap64 (i + 1) = i + 1 by unfold wrap64; omega)
      by_cases hlt : i < k
      · obtain ⟨B, hB0, hB1, hBc, hBx, hX0, hX1⟩ : ∃ B : Int, 0 ≤ B ∧ B ≤ 255 ∧ w.cell? ⟨b, o + 1 + i.toNat, none⟩ = some (.int .u8 B) ∧ Aside0 (∀ j : Nat, i = (j : Nat) → val ((r.take k.toNat).take (j + 1)) = val ((r.take k.toNat).take j) * 256 + B) ∧ 0 ≤ X ∧ X < 72057594037927936 := by
          obtain ⟨j, hj1, hj2, hj3, _⟩ := HI.out
          have hjl : j < (r.take k.toNat).length := by rw [HLN.out]; omega
          have hm := HRG.out _ (List.getElem_mem hjl)
          refine ⟨(r.take k.toNat)[j], hm.1, hm.2, ?_, ⟨fun j' hj' => ?_⟩, ?_⟩
          · have q := HCELL.out j (by omega)
            rw [show i.toNat = j by omega, q]
            simp [List.getD_eq_getElem?_getD, List.getElem?_eq_getElem hjl]
          · obtain rfl : j' = j := by omega
            rw [List.take_succ_eq_append_getElem hjl, val_snoc]
          · rw [hj3]
            have hbd := val_bd ((r.take k.toNat).take j) (fun x hx => HRG.out x (List.mem_of_mem_take hx))
            have hb7 := val_bd8 ((r.take k.toNat).take j) (fun x hx => HRG.out x (List.mem_of_mem_take hx)) 7 (by rw [List.length_take]; omega)
            exact ⟨hbd.1, hb7⟩
        have hw1 : IntKind.u64.wrap (256 * X) = 256 * X := by rw [IntKind.wrap_u64]; omega
        have hw2 : IntKind.u64.wrap B = B := by rw [IntKind.wrap_u64]; omega
        have hw3 : IntKind.u64.wrap (256 * X + B) = 256 * X + B := by rw [IntKind.wrap_u64]; omega
        go_wp2
        go_roundg (gk - 1)
        case measure => obtain ⟨j, h1, h2, h3, h4⟩ := HI.out; omega
        case rel =>
          refine ⟨i + 1, 256 * X + B, rfl, by first | rfl | rw [hiw.out], rfl, ⟨?_⟩⟩
          obtain ⟨j, h1, h2, h3, h4⟩ := HI.out
          exact ⟨j + 1, by omega, by omega, by rw [hBx.out j h1, ← h3]; omega, by omega⟩
      · have hX : X = val (r.take k.toNat) := by
          obtain ⟨j, h1, h2, h3, h4⟩ := HI.out
          rw [h3, List.take_of_length_le (by rw [HLN.out]; omega)]
        subst hX
        go_wp2
        repeat (go_quiet (fail); try go_wp2)
        refine bodyPost_ret (results_list (rs := [.tmp 2, .tmp 3, .tmp 4, .tmp 5]) rfl (by simp) (.tmp (.tmp (.tmp (.tmp .nil))))) rfl ?_
        exact ⟨A2, _, by simp [h127], HDL.out, HROW.out, _, rfl⟩
  · obtain rfl : k = 0 := by omega
    obtain ⟨A1, hA1⟩ : ∃ A', A' = (if c = 1 then some (⟨b, o, none⟩ : Addr) else (some (⟨b, o, none⟩ : Addr)).map (·.add 1)) := ⟨_, rfl⟩
    have s1 : ∀ W : World, (Instr.slice 22 (.slice (some ⟨b, o, none⟩) n c) (some (.int .i64 1)) (some (.int .i64 1)) none).run Tryd.prog W = .ok (.slice A1 0 (c - 1)) W := fun W => by
      rw [run_slice_lh W 22 (some ⟨b, o, none⟩) n c hu .i64 .i64 1 1 (by omega) (by omega) (by omega), hel]
      simp [sizeOf, typeInfo, hi, hz1, sliced, Result.andThen, hA1]
    simp only [Int.toNat_zero, List.take_zero, List.drop_zero, Int.add_zero, Nat.add_zero] at s2 HDL HROW hkw ⊢
    generalize hrlen : r.length = rl at s2 HDL
    have HRL := Aside0.mk hrlen
    have hn3 : ¬ (n : Int) < 1 := by omega
    clear hR hrow hdl hA2 hel hu hi hz0 hz1 hz2 hz h8 hlg hh hk hdr hln hgt hA1 hrlen hkp HLN hn
    go_enter Tryd.func27, Tryd.ntmps27
    go_wp2
    go_loopg [7, 42] 0 (fun gg v7 v42 wr => v7 = .int .u64 0 ∧ v42 = .int .i64 0 ∧ w = wr)
    case atStart => exact ⟨rfl, rfl, rfl⟩
    case round =>
      obtain ⟨rfl, rfl, rfl⟩ := hrel
      go_wp2
      repeat (go_quiet (fail); try go_wp2)
      refine bodyPost_ret (results_list (rs := [.tmp 2, .tmp 3, .tmp 4, .tmp 5]) rfl (by simp) (.tmp (.tmp (.tmp (.tmp .nil))))) rfl ?_
      exact ⟨A2, c - 1, by simp [h127, val], HDL.out, HROW.out, _, rfl⟩
/-- The document's number: off the front, or nothing. -/
theorem ref_number (N : Nat) (A : Option Addr) (c : Nat) (l : List Int) (w : World) (hc : l.length ≤ c) (hl : l.length ≤ 1000000) (hh : ∀ x ∈ l, 0 ≤ x ∧ x ≤ 255) (hR : RowB N w A l) :
    Calls Tryd.prog 27 #[.slice A l.length c] w fun e w' => (∃ A' c', e = .returned (.tuple #[.int .u64 (match inum l with | some (n, _, _) => n | none => 0), .bool (match inum l with | some (_, m, _) => m | none => false), .slice A' (match inum l with | some (_, _, r) => r | none => ([] : List Int)).length c', .bool (inum l).isSome]) ∧ (match inum l with | some (_, _, r) => r | none => ([] : List Int)).length ≤ c' ∧ RowB N w A' (match inum l with | some (_, _, r) => r | none => ([] : List Int))) ∧ ∃ m, w' = w.drewN m := by
  rcases l with _ | ⟨h, r⟩
  · refine (ref_number_nil A c w).mono ?_
    rintro e w' ⟨rfl, hw⟩
    exact ⟨⟨none, 0, rfl, Nat.le_refl _, RowB.nil _ _ _⟩, hw⟩
  · obtain ⟨b, o, cur, rfl, _, _, _⟩ := hR (by simp)
    by_cases hbad : 8 < h % 128 ∨ (r.length : Int) < h % 128 ∨ (0 < h % 128 ∧ rd r 0 = 0)
    · have e : inum (h :: r) = none := by rw [inum_cons, if_pos hbad]
      rw [e]
      refine (ref_number_bad N b o (h :: r).length c h r w rfl hc hl (hh h (List.mem_cons_self ..)) hR hbad).mono ?_
      rintro e w' ⟨rfl, hw⟩
      exact ⟨⟨none, 0, rfl, Nat.le_refl _, RowB.nil _ _ _⟩, hw⟩
    · have e : inum (h :: r) = some (val (r.take (h % 128).toNat), decide (h ≥ 128), r.drop (h % 128).toNat) := by rw [inum_cons, if_neg hbad]
      rw [e]
      refine (ref_number_ok N b o (h :: r).length c h r w rfl hc hl hh hR (fun q => hbad (Or.inl q)) (fun q => hbad (Or.inr (Or.inl q))) (fun q => hbad (Or.inr (Or.inr q)))).mono ?_
      rintro e w' ⟨A', c', rfl, h1, h2, hw⟩
      exact ⟨⟨A', c', rfl, h1, h2⟩, hw⟩

end Go.Proofs.YtdojgjbiilnjpaaDoor.M
