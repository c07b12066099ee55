import Derived.Test.YtdojgjbiilnjpaaDoorMquill
set_option linter.unusedVariables false
set_option linter.unusedSimpArgs false
namespace Go.Proofs.YtdojgjbiilnjpaaDoor.M
open Go.RowKit Go.Proofs.YtdojgjbiilnjpaaDoorW.PrintWords Go.Proofs.YtdojgjbiilnjpaaDoorW.PrintLast Go.Proofs.YtdojgjbiilnjpaaDoorW.PrintMore
/-- The number of bytes, the highest first. -/
def val (l : List Int) : Int := l.foldl (fun a b => a * 256 + b) 0
/-- A number off the front. -/
def inum : List Int → Option (Int × Bool × List Int)
  | [] => none
  | h :: r => if 8 < h % 128 ∨ (r.length : Int) < h % 128 ∨ (0 < h % 128 ∧ rd r 0 = 0) then none else some (val (r.take (h % 128).toNat), decide (h ≥ 128), r.drop (h % 128).toNat)
theorem andNot128 (h : Int) (h0 : 0 ≤ h) (h1 : h ≤ 255) : bits .andNot .u8 h 128 = h % 128 := by
  have key : ∀ n : Fin 256, bits .andNot .u8 (n.val : Int) 128 = (n.val : Int) % 128 := by decide +kernel
  have := key ⟨h.toNat, by omega⟩
  simpa [Int.toNat_of_nonneg h0] using this
theorem u64w8 (n : Int) : IntKind.u64.wrap n = n % 18446744073709551616 := by simp [IntKind.wrap, IntKind.bits, IntKind.signed]
theorem or64b (a b : Nat) (ha : a < 72057594037927936) (hb : b < 256) : bits .or .u64 ((a : Int) * 256) (b : Int) = (a : Int) * 256 + b := by
  have e : (a : Int) * 256 = ((256 * a : Nat) : Int) := by omega
  have h1 : (BitVec.ofInt 64 ((256 * a : Nat) : Int)).toNat = 256 * a := by
    rw [BitVec.ofInt_natCast, BitVec.toNat_ofNat]; exact Nat.mod_eq_of_lt (by omega)
  have h2 : (BitVec.ofInt 64 (b : Int)).toNat = b := by
    rw [BitVec.ofInt_natCast, BitVec.toNat_ofNat]; exact Nat.mod_eq_of_lt (by omega)
  have h3 : 256 * a ||| b = 256 * a + b := (Nat.two_pow_add_eq_or_of_lt (i := 8) (by omega) a).symm
  rw [e]
  show IntKind.u64.wrap ((BitVec.ofInt 64 ((256 * a : Nat) : Int) ||| BitVec.ofInt 64 (b : Int)).toNat : Int) = _
  rw [BitVec.toNat_or, h1, h2, h3, u64w8]
  omega
theorem val_snoc (l : List Int) (b : Int) : val (l ++ [b]) = val l * 256 + b := by simp [val, List.foldl_append]
theorem val_bd (l : List Int) (hr : ∀ x ∈ l, 0 ≤ x ∧ x ≤ 255) : 0 ≤ val l ∧ val l < 256 ^ l.length := by
  have key : ∀ (r : List Int) (a : Int) (m : Nat), (∀ x ∈ r, 0 ≤ x ∧ x ≤ 255) → 0 ≤ a → a < 256 ^ m → 0 ≤ r.foldl (fun a b => a * 256 + b) a ∧ r.foldl (fun a b => a * 256 + b) a < 256 ^ (m + r.length) := by
    intro r
    induction r with
    | nil => intro a m _ h0 h1; exact ⟨h0, h1⟩
    | cons x r ih =>
      intro a m hx h0 h1
      have hx0 := hx x (List.mem_cons_self ..)
      have h2 : a * 256 + x < 256 ^ (m + 1) := by rw [Int.pow_succ]; omega
      have := ih (a * 256 + x) (m + 1) (fun y hy => hx y (List.mem_cons_of_mem _ hy)) (by omega) h2
      rw [show m + (x :: r).length = m + 1 + r.length by simp only [List.length_cons]; omega]
      exact this
  have := key l 0 0 hr (by omega) (by rw [Int.pow_zero]; decide)
  rw [Nat.zero_add] at this
  exact this
theorem val_bd8 (l : List Int) (hr : ∀ x ∈ l, 0 ≤ x ∧ x ≤ 255) (k : Nat) (hl : l.length ≤ k) : val l < 256 ^ k := by
  have h := val_bd l hr
  have h3 : (256 : Nat) ^ l.length ≤ 256 ^ k := Nat.pow_le_pow_right (by decide) hl
  have : (256 : Int) ^ l.length ≤ 256 ^ k := by
    have h4 := Int.ofNat_le.2 h3
    rw [Int.natCast_pow, Int.natCast_pow] at h4
    exact h4
  omega
theorem RowB.cell {N : Nat} {w : World} {b o : Nat} {l : List Int} (h : RowB N w (some ⟨b, o, none⟩) l) (j : Nat) (hj : j < l.length) : w.cell? ⟨b, o + j, none⟩ = some (.int .u8 (l.getD j 0)) := by
  obtain ⟨b', o', cur', e', _, hb', hc'⟩ := h (by rintro rfl; simp at hj)
  injection e' with e'
  injection e' with e1 e2
  subst e1 e2
  exact (blk_cell hb' _).trans (hc' j hj)
theorem RowB.head {N : Nat} {w : World} {b o : Nat} {r : List Int} {k : Int} (h : RowB N w (some ⟨b, o, none⟩) (r.take k.toNat)) (hk : 0 < k) (hl : k ≤ r.length) : w.cell? ⟨b, o, none⟩ = some (.int .u8 (rd r 0)) := by
  have q := h.cell 0 (by rw [List.length_take]; omega)
  have e : (r.take k.toNat).getD 0 0 = rd r 0 := by
    rcases r with _ | ⟨x, r⟩
    · simp [rd]
    · have ek : k.toNat = (k.toNat - 1) + 1 := by omega
      rw [ek]
      simp [rd]
  rw [e] at q
  exact q
set_option maxHeartbeats 4000000 in
set_option maxRecDepth 100000 in
theorem lens_number_not (N g : Nat) (s : Option (List Int)) (w : World) (hs : ∀ l, s = some l → l = []) (h : Le N w g s) :
    Calls Tryd.prog 30 #[.pointer (some ⟨g, 0, none⟩)] w fun e w' => e = .returned (.tuple #[.int .u64 0, .bool false]) ∧ LDone N w g none w' := by
  have HC := Aside0.mk (lens_take_not N g s 1 w (fun l e => by rw [hs l e]; simp) h)
  clear h hs
  go_enter Tryd.func30, Tryd.ntmps30
  go_wp2_with (go_at_call 32; refine HC.out.mono ?_; rintro e w5 ⟨rfl, hd⟩; have HD := Aside0.mk hd; clear hd)
  go_ret2
  exact ⟨rfl, HD.out⟩
set_option maxHeartbeats 4000000 in
set_option maxRecDepth 100000 in
theorem lens_number_nil (w : World) :
    Calls Tryd.prog 30 #[.pointer none] w fun e w' => e = .returned (.tuple #[.int .u64 0, .bool false]) ∧ w = w' := by
  have HC := Aside0.mk (lens_take_nil 1 w)
  go_enter Tryd.func30, Tryd.ntmps30
  go_wp2_with (go_at_call 32; refine HC.out.mono ?_; rintro e w5 ⟨rfl, rfl⟩)
  go_ret2
  exact ⟨rfl, rfl⟩
set_option maxHeartbeats 4000000 in
set_option maxRecDepth 100000 in
/-- The head tells of more bytes than there are. -/
theorem lens_number_long (N g : Nat) (h : Int) (r : List Int) (w : World) (hlong : (r.length : Int) < h % 128) (hL : Le N w g (some (h :: r))) :
    Calls Tryd.prog 30 #[.pointer (some ⟨g, 0, none⟩)] w fun e w' => e = .returned (.tuple #[.int .u64 0, .bool false]) ∧ LDone N w g none w' := by
  obtain ⟨A, c, hL⟩ := hL
  obtain ⟨b, o, cur, rfl, hb1, hb2, hb3⟩ := hL.row (by simp)
  have hb0 := hL.rng h (List.mem_cons_self ..)
  have ean : bits .andNot .u8 h 128 = h % 128 := andNot128 h hb0.1 hb0.2
  have HC := Aside0.mk (lens_take_ok N g (h :: r) (some ⟨b, o, none⟩) c 1 w (by omega) (by simp; omega) hL)
  obtain ⟨k, hk⟩ : ∃ k, k = h % 128 := ⟨_, rfl⟩
  rw [← hk] at ean
  have hk0 : 0 ≤ k ∧ k < 128 := by omega
  have hkw : wrap64 k = k := by unfold wrap64; omega
  have HL1 := Aside0.mk (show (r.length : Int) < k by omega)
  have HK := Aside0.mk hk
  have HB := Aside0.mk hb0
  clear hL hb2 hb3 hlong hk hb0
  go_enter Tryd.func30, Tryd.ntmps30
  go_wp2_with (first | (go_at_call 32; (with_reducible refine HC.out.mono ?_); rintro e w5 ⟨rfl, hd, hr⟩; have hc5 : w5.cell? ⟨b, o, none⟩ = some (.int .u8 h) := (by obtain ⟨b', o', cur', e', _, hb', hc'⟩ := hr (by simp); injection e' with e'; injection e' with e1 e2; subst e1 e2; exact (blk_cell hb' _).trans (hc' 0 (by simp))); have HD := Aside0.mk hd; clear hd hr) | (go_at_call 32; refine (lens_take_not N g (some r) k w5 (fun l e => by injection e with e; subst e; exact HL1.out) HD.out.1).mono ?_; rintro e w6 ⟨rfl, hd⟩; have HD2 := Aside0.mk hd; clear hd hc5) | (go_at_call 31; refine (lens_fail_any N g _ w6 HD2.out.1).mono ?_; rintro e w7 ⟨rfl, hd⟩; have HD3 := Aside0.mk hd; clear hd))
  go_ret2
  exact ⟨rfl, (HD.out.trans HD2.out).trans HD3.out⟩
set_option maxHeartbeats 4000000 in
set_option maxRecDepth 100000 in
/-- Too many bytes, or a nought ahead. -/
theorem lens_number_bad (N g : Nat) (h : Int) (r : List Int) (w : World) (hlong : h % 128 ≤ (r.length : Int)) (hbad : 8 < h % 128 ∨ (0 < h % 128 ∧ rd r 0 = 0)) (hL : Le N w g (some (h :: r))) :
    Calls Tryd.prog 30 #[.pointer (some ⟨g, 0, none⟩)] w fun e w' => e = .returned (.tuple #[.int .u64 0, .bool false]) ∧ LDone N w g none w' := by
  obtain ⟨A, c, hL⟩ := hL
  obtain ⟨b, o, cur, rfl, hb1, hb2, hb3⟩ := hL.row (by simp)
  have hb0 := hL.rng h (List.mem_cons_self ..)
  have ean : bits .andNot .u8 h 128 = h % 128 := andNot128 h hb0.1 hb0.2
  have HC := Aside0.mk (lens_take_ok N g (h :: r) (some ⟨b, o, none⟩) c 1 w (by omega) (by simp; omega) hL)
  obtain ⟨k, hk⟩ : ∃ k, k = h % 128 := ⟨_, rfl⟩
  rw [← hk] at ean hbad hlong
  have hk0 : 0 ≤ k ∧ k < 128 := by omega
  have hkw : wrap64 k = k := by unfold wrap64; omega
  have HL1 := Aside0.mk hlong
  have HK := Aside0.mk hk
  have HB := Aside0.mk hb0
  clear hL hb2 hb3 hlong hk hb0
  by_cases h8 : 8 < k
  · clear hbad
    go_enter Tryd.func30, Tryd.ntmps30
    go_wp2_with (first | (go_at_call 32; (with_reducible refine HC.out.mono ?_); rintro e w5 ⟨rfl, hd, hr⟩; have hc5 : w5.cell? ⟨b, o, none⟩ = some (.int .u8 h) := (by obtain ⟨b', o', cur', e', _, hb', hc'⟩ := hr (by simp); injection e' with e'; injection e' with e1 e2; subst e1 e2; exact (blk_cell hb' _).trans (hc' 0 (by simp))); have HD := Aside0.mk hd; clear hd hr; obtain ⟨A2, c2, hL2⟩ := HD.out.1; have HL2 := Aside0.mk hL2; clear hL2) | (go_at_call 32; refine (lens_take_ok N g r A2 c2 k w5 (by omega) HL1.out HL2.out).mono ?_; rintro e w6 ⟨rfl, hd, hr⟩; have HD2 := Aside0.mk hd; have HR2 := Aside0.mk hr; clear hd hr hc5) | (go_at_call 31; refine (lens_fail_any N g _ w6 HD2.out.1).mono ?_; rintro e w7 ⟨rfl, hd⟩; have HD3 := Aside0.mk hd; clear hd))
    go_ret2
    exact ⟨rfl, (HD.out.trans HD2.out).trans HD3.out⟩
  · have hz : 0 < k ∧ rd r 0 = 0 := by omega
    have HZ := Aside0.mk hz.2
    have hkp : 0 < k := hz.1
    clear hbad hz
    go_enter Tryd.func30, Tryd.ntmps30
    go_wp2_with (first | (go_at_call 32; (with_reducible refine HC.out.mono ?_); rintro e w5 ⟨rfl, hd, hr⟩; have hc5 : w5.cell? ⟨b, o, none⟩ = some (.int .u8 h) := (by obtain ⟨b', o', cur', e', _, hb', hc'⟩ := hr (by simp); injection e' with e'; injection e' with e1 e2; subst e1 e2; exact (blk_cell hb' _).trans (hc' 0 (by simp))); have HD := Aside0.mk hd; clear hd hr; obtain ⟨A2, c2, hL2⟩ := HD.out.1; have hne : r ≠ [] := (by rintro rfl; have := HL1.out; simp at this; omega); obtain ⟨b2, o2, cur2, rfl, hbn, hbb, hbc⟩ := hL2.row hne; have HL2 := Aside0.mk hL2; clear hL2 hne hbn hbb hbc) | (go_at_call 32; refine (lens_take_ok N g r (some ⟨b2, o2, none⟩) c2 k w5 (by omega) HL1.out HL2.out).mono ?_; rintro e w6 ⟨rfl, hd, hr⟩; have hc6 : w6.cell? ⟨b2, o2, none⟩ = some (.int .u8 0) := (by have hl1 := HL1.out; have hq := RowB.head hr (by omega) (by omega); rw [HZ.out] at hq; exact hq); have HD2 := Aside0.mk hd; have HR2 := Aside0.mk hr; clear hd hr hc5) | (go_at_call 31; refine (lens_fail_any N g _ w6 HD2.out.1).mono ?_; rintro e w7 ⟨rfl, hd⟩; have HD3 := Aside0.mk hd; clear hd))
    go_ret2
    exact ⟨rfl, (HD.out.trans HD2.out).trans HD3.out⟩

end Go.Proofs.YtdojgjbiilnjpaaDoor.M
