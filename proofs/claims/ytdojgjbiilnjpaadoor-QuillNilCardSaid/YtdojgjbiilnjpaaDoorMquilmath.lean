import Derived.Test.YtdojgjbiilnjpaaDoorMquils
set_option linter.unusedVariables false
set_option linter.unusedSimpArgs false
namespace Go.Proofs.YtdojgjbiilnjpaaDoor.M
open Go.RowKit Go.Proofs.YtdojgjbiilnjpaaDoorW.PrintWords Go.Proofs.YtdojgjbiilnjpaaDoorW.PrintLast Go.Proofs.YtdojgjbiilnjpaaDoorW.PrintMore
theorem nsz_zero : nsz 0 = 0 := by decide
theorem p256 (k : Nat) : (256 : Nat) ^ k = 2 ^ (8 * k) := by rw [Nat.pow_mul]
theorem nsz_bd (n : Nat) (hn : n < 18446744073709551616) (h0 : n ≠ 0) : 256 ^ (nsz n - 1) ≤ n ∧ n < 256 ^ nsz n ∧ 1 ≤ nsz n := by
  have e64 : (2 : Nat) ^ 64 = 18446744073709551616 := by decide
  obtain ⟨b1, b2, b3⟩ := Go.Lib.bitLenAux_bounds 64 n (by omega) h0
  unfold nsz Go.Lib.bitLen
  generalize Go.Lib.bitLenAux 64 n = L at b1 b2 b3 ⊢
  refine ⟨?_, ?_, by omega⟩
  · rw [p256]
    exact Nat.le_trans (Nat.pow_le_pow_right (by decide) (by omega)) b2
  · rw [p256]
    exact Nat.lt_of_lt_of_le b3 (Nat.pow_le_pow_right (by decide) (by omega))
theorem nsz_of (n k : Nat) (hn : n < 18446744073709551616) (h1 : 256 ^ (k - 1) ≤ n) (h2 : n < 256 ^ k) (hk : 1 ≤ k) : nsz n = k := by
  have hp : 0 < (256 : Nat) ^ (k - 1) := Nat.pow_pos (by decide)
  obtain ⟨a1, a2, a3⟩ := nsz_bd n hn (by omega)
  have h3 : (256 : Nat) ^ (nsz n - 1) < 256 ^ k := Nat.lt_of_le_of_lt a1 h2
  have h4 : (256 : Nat) ^ (k - 1) < 256 ^ nsz n := Nat.lt_of_le_of_lt h1 a2
  have h5 := (Nat.pow_lt_pow_iff_right (a := 256) (by decide)).1 h3
  have h6 := (Nat.pow_lt_pow_iff_right (a := 256) (by decide)).1 h4
  omega
def rng (l : List Int) : Prop := ∀ x ∈ l, 0 ≤ x ∧ x ≤ 255
/-- The number of bytes, plain. -/
def vnat : List Int → Nat
  | [] => 0
  | b :: r => b.toNat * 256 ^ r.length + vnat r
theorem foldl_v (l : List Int) : ∀ (a : Int), l.foldl (fun a b => a * 256 + b) a = a * 256 ^ l.length + val l := by
  induction l with
  | nil => intro a; simp [val]
  | cons b r ih =>
    intro a
    unfold val
    rw [List.foldl_cons, List.foldl_cons, ih, ih, List.length_cons, Int.pow_succ, Int.zero_mul, Int.zero_add, Int.add_mul, Int.add_assoc]
    congr 1
    rw [Int.mul_assoc, Int.mul_comm 256]
theorem val_cons (b : Int) (r : List Int) : val (b :: r) = b * 256 ^ r.length + val r := by
  show (b :: r).foldl (fun a b => a * 256 + b) 0 = _
  rw [List.foldl_cons, foldl_v]
  simp
theorem val_nat : ∀ (l : List Int), rng l → val l = (vnat l : Int)
  | [], _ => rfl
  | b :: r, h => by
    have hb := h b (List.mem_cons_self ..)
    rw [val_cons, val_nat r (fun x hx => h x (List.mem_cons_of_mem _ hx)), vnat, Int.natCast_add, Int.natCast_mul, Int.natCast_pow, Int.toNat_of_nonneg hb.1]
    rfl
theorem vnat_lt : ∀ (l : List Int), rng l → vnat l < 256 ^ l.length
  | [], _ => by decide
  | b :: r, h => by
    have hb := h b (List.mem_cons_self ..)
    have hr := vnat_lt r (fun x hx => h x (List.mem_cons_of_mem _ hx))
    rw [vnat, List.length_cons, Nat.pow_succ]
    have h2 : b.toNat * 256 ^ r.length ≤ 255 * 256 ^ r.length := Nat.mul_le_mul_right _ (by omega)
    omega
theorem nby_mod (a n : Nat) : ∀ j m, j ≤ m → nby (a * 2 ^ (8 * m) + n) j = nby n j
  | 0, _, _ => rfl
  | j + 1, m, h => by
    rw [nby, nby, nby_mod a n j m (by omega)]
    congr 2
    have e : a * 2 ^ (8 * m) = 2 ^ (8 * j) * (256 * (a * 2 ^ (8 * (m - j - 1)))) := by
      rw [show 8 * m = 8 * j + (8 + 8 * (m - j - 1)) by omega, Nat.pow_add, Nat.pow_add, show (2 : Nat) ^ 8 = 256 by decide]
      rw [← Nat.mul_assoc, ← Nat.mul_assoc, ← Nat.mul_assoc, Nat.mul_comm a, Nat.mul_assoc (2 ^ (8 * j)) a 256, Nat.mul_comm a 256, ← Nat.mul_assoc, Nat.mul_assoc]
    rw [e, Nat.mul_add_div (Nat.pow_pos (by decide)), Nat.mul_add_mod]
theorem nby_vnat : ∀ (l : List Int), rng l → nby (vnat l) l.length = l
  | [], _ => rfl
  | b :: r, h => by
    have hb := h b (List.mem_cons_self ..)
    have hr : rng r := fun x hx => h x (List.mem_cons_of_mem _ hx)
    have hlt := vnat_lt r hr
    rw [vnat, List.length_cons, nby, p256, nby_mod _ _ _ _ (Nat.le_refl _), nby_vnat r hr]
    congr 1
    rw [← p256, Nat.mul_comm, Nat.mul_add_div (Nat.pow_pos (by decide)), Nat.div_eq_of_lt hlt, Nat.add_zero]
    omega
theorem nby_rng (n : Nat) : ∀ j, rng (nby n j)
  | 0 => fun x hx => by cases hx
  | j + 1 => fun x hx => by
    rw [nby] at hx
    rcases List.mem_cons.1 hx with rfl | hx
    · omega
    · exact nby_rng n j x hx
theorem vnat_nby (n : Nat) : ∀ j, vnat (nby n j) = n % 256 ^ j
  | 0 => by simp [nby, vnat, Nat.mod_one]
  | j + 1 => by
    rw [nby, vnat, vnat_nby n j, nby_len, Int.toNat_natCast, ← p256, Nat.pow_succ, Nat.mod_mul, Nat.mul_comm, Nat.add_comm]
theorem nlay_rng (n mk : Nat) (hn : n < 18446744073709551616) (hm : mk ≤ 128) : rng (nlay n mk) := by
  intro x hx
  rcases List.mem_cons.1 hx with rfl | hx
  · have := nsz_le n hn
    omega
  · exact nby_rng _ _ x hx
theorem nlay_len (n mk : Nat) : (nlay n mk).length = nsz n + 1 := by rw [nlay, List.length_cons, nby_len]
theorem rng_app {a b : List Int} : rng (a ++ b) ↔ rng a ∧ rng b :=
  ⟨fun h => ⟨fun x hx => h x (List.mem_append_left _ hx), fun x hx => h x (List.mem_append_right _ hx)⟩, fun h x hx => (List.mem_append.1 hx).elim (h.1 x) (h.2 x)⟩
/-- What was read is what is laid. -/
theorem inum_lay {l : List Int} (hr : rng l) {n : Int} {m : Bool} {r : List Int} (e : inum l = some (n, m, r)) :
    nlay n.toNat (if m then 128 else 0) ++ r = l ∧ 0 ≤ n ∧ n ≤ 18446744073709551615 ∧ rng r := by
  rcases l with _ | ⟨h, t⟩
  · cases e
  · rw [inum_cons] at e
    split at e
    · cases e
    · rename_i hc
      injection e with e
      injection e with e1 e2
      injection e2 with e2 e3
      have h8 : ¬ 8 < h % 128 := fun q => hc (Or.inl q)
      have hl : ¬ (t.length : Int) < h % 128 := fun q => hc (Or.inr (Or.inl q))
      have hz : ¬ (0 < h % 128 ∧ rd t 0 = 0) := fun q => hc (Or.inr (Or.inr q))
      have hh := hr h (List.mem_cons_self ..)
      have htr : rng t := fun x hx => hr x (List.mem_cons_of_mem _ hx)
      obtain ⟨k, hk⟩ : ∃ k : Nat, h % 128 = (k : Nat) := ⟨(h % 128).toNat, by omega⟩
      rw [hk] at e1 e3 hz
      simp only [Int.toNat_natCast] at e1 e3
      have hbr : rng (t.take k) := fun x hx => htr x (List.mem_of_mem_take hx)
      have hbl : (t.take k).length = k := by rw [List.length_take]; omega
      have hn : n = (vnat (t.take k) : Nat) := by rw [← e1, val_nat _ hbr]
      have hlt := vnat_lt _ hbr
      rw [hbl] at hlt
      have h256 : (256 : Nat) ^ k ≤ 256 ^ 8 := Nat.pow_le_pow_right (by decide) (by omega)
      have h2568 : (256 : Nat) ^ 8 = 18446744073709551616 := by decide
      have hsz : nsz (vnat (t.take k)) = k := by
        rcases Nat.eq_zero_or_pos k with h0 | h0
        · subst h0
          simp [vnat, nsz_zero]
        · refine nsz_of _ k (by omega) ?_ hlt h0
          rcases t with _ | ⟨b, t2⟩
          · simp at hbl; omega
          · obtain ⟨k2, rfl⟩ : ∃ k2, k = k2 + 1 := ⟨k - 1, by omega⟩
            have hb := htr b (List.mem_cons_self ..)
            have hb0 : b ≠ 0 := fun q => hz ⟨by omega, by simp [rd, q]⟩
            rw [List.take_succ_cons, vnat, List.length_take]
            rw [List.length_cons] at hl
            rw [show min k2 t2.length = k2 by omega, show k2 + 1 - 1 = k2 by omega]
            have : 1 * 256 ^ k2 ≤ b.toNat * 256 ^ k2 := Nat.mul_le_mul_right _ (by omega)
            omega
      refine ⟨?_, by omega, by omega, fun x hx => htr x (List.mem_of_mem_drop (e3 ▸ hx))⟩
      rw [hn, Int.toNat_natCast, nlay, hsz]
      have e4 : nby (vnat (t.take k)) k = t.take k := by
        have := nby_vnat _ hbr
        rwa [hbl] at this
      rw [e4, ← e3, List.cons_append, List.take_append_drop]
      congr 1
      rw [← e2]
      by_cases hb : h ≥ 128
      · simp only [hb, decide_true, if_true]
        omega
      · simp only [hb, decide_false, Bool.false_eq_true, if_false]
        omega
/-- What is laid is read. -/
theorem inum_nlay (n mk : Nat) (hn : n < 18446744073709551616) (hm : mk = 0 ∨ mk = 128) (r : List Int) : inum (nlay n mk ++ r) = some ((n : Int), decide (mk = 128), r) := by
  have hs := nsz_le n hn
  have hlen := nby_len n (nsz n)
  rw [nlay, List.cons_append, inum_cons]
  have e1 : ((mk + nsz n : Nat) : Int) % 128 = (nsz n : Nat) := by omega
  rw [e1]
  have e2 : (nby n (nsz n) ++ r).length = nsz n + r.length := by rw [List.length_append, hlen]
  have e3 : (nby n (nsz n) ++ r).take (nsz n) = nby n (nsz n) := by
    have := List.take_left (l₁ := nby n (nsz n)) (l₂ := r)
    rwa [hlen] at this
  have e4 : (nby n (nsz n) ++ r).drop (nsz n) = r := by
    have := List.drop_left (l₁ := nby n (nsz n)) (l₂ := r)
    rwa [hlen] at this
  have e5 : val (nby n (nsz n)) = (n : Int) := by
    rw [val_nat _ (nby_rng _ _), vnat_nby]
    rcases Nat.eq_zero_or_pos n with h0 | h0
    · subst h0; simp
    · have := (nsz_bd n hn (by omega)).2.1
      rw [Nat.mod_eq_of_lt this]
  rw [if_neg, Int.toNat_natCast, e3, e4, e5]
  · congr 2
    rcases hm with rfl | rfl
    · simp; omega
    · simp
      omega
  · rintro (h | h | ⟨h, h2⟩)
    · omega
    · rw [e2] at h; omega
    · have h0 : n ≠ 0 := fun q => by subst q; rw [nsz_zero] at h; omega
      obtain ⟨a1, a2, a3⟩ := nsz_bd n hn h0
      obtain ⟨k2, hk2⟩ : ∃ k2, nsz n = k2 + 1 := ⟨nsz n - 1, by omega⟩
      rw [hk2, nby, List.cons_append] at h2
      simp only [rd, Int.toNat_zero, List.getD_cons_zero] at h2
      rw [hk2] at a1 a2
      rw [show k2 + 1 - 1 = k2 by omega] at a1
      rw [← p256] at h2
      have h3 : 1 ≤ n / 256 ^ k2 := (Nat.one_le_div_iff (Nat.pow_pos (by decide))).2 a1
      have h4 : n / 256 ^ k2 < 256 := by
        rw [Nat.div_lt_iff_lt_mul (Nat.pow_pos (by decide)), Nat.mul_comm, ← Nat.pow_succ]
        exact a2
      omega
theorem luint_some {l : List Int} (hr : rng l) {most : Int} {r : List Int} (e : (luint (some l) most).2 = some r) :
    nlay (luint (some l) most).1.toNat 0 ++ r = l ∧ 0 ≤ (luint (some l) most).1 ∧ (luint (some l) most).1 ≤ 18446744073709551615 ∧ (luint (some l) most).1 ≤ most ∧ rng r := by
  have hu : luint (some l) most = match inum l with | some (n, m, r) => if m = true then (0, none) else if n ≤ most then (n, some r) else (0, none) | none => (0, none) := rfl
  rw [hu] at e ⊢
  rcases hi : inum l with _ | ⟨n, m, r0⟩
  · rw [hi] at e; cases e
  · rw [hi] at e
    simp only at e ⊢
    cases m
    · by_cases hm : n ≤ most
      · simp only [Bool.false_eq_true, if_false, if_pos hm, Option.some.injEq] at e ⊢
        subst e
        have h := inum_lay hr hi
        exact ⟨h.1, h.2.1, h.2.2.1, hm, h.2.2.2⟩
      · simp only [Bool.false_eq_true, if_false, if_neg hm] at e
        cases e
    · simp only [if_true] at e
      cases e
theorem lint_some {l : List Int} (hr : rng l) {r : List Int} (e : (lint (some l)).2 = some r) :
    qint (lint (some l)).1 ++ r = l ∧ -9223372036854775808 ≤ (lint (some l)).1 ∧ (lint (some l)).1 ≤ 9223372036854775807 ∧ rng r := by
  have hu : lint (some l) = match inum l with | some (n, m, r) => if 9223372036854775808 ≤ n then (0, none) else if m = true then (-1 - n, some r) else (n, some r) | none => (0, none) := rfl
  rw [hu] at e ⊢
  rcases hi : inum l with _ | ⟨n, m, r0⟩
  · rw [hi] at e; cases e
  · rw [hi] at e
    have h := inum_lay hr hi
    simp only at e ⊢
    by_cases hb : 9223372036854775808 ≤ n
    · rw [if_pos hb] at e; cases e
    · rw [if_neg hb] at e ⊢
      cases m
      · simp only [Bool.false_eq_true, if_false, Option.some.injEq] at e ⊢
        subst e
        refine ⟨?_, by omega, by omega, h.2.2.2⟩
        rw [qint, if_neg (by omega)]
        exact h.1
      · simp only [if_true, Option.some.injEq] at e ⊢
        subst e
        refine ⟨?_, by omega, by omega, h.2.2.2⟩
        rw [qint, if_pos (by omega), show -1 - (-1 - n) = n by omega]
        exact h.1
theorem lint_none {s : Option (List Int)} (h : (lint s).2 = none) : (lint s).1 = 0 := by
  unfold lint at h ⊢
  rcases hs : numOf s with _ | ⟨n, m, r⟩
  · rfl
  · simp only [hs] at h ⊢
    split
    · rfl
    · rename_i hb
      rw [if_neg hb] at h
      split at h <;> cases h
theorem ltext_none {s : Option (List Int)} {most : Int} (h : (ltext s most).2 = none) : (ltext s most).1 = ⟨#[]⟩ := by
  unfold ltext at h ⊢
  rcases hs : (luint s most).2 with _ | l
  · rfl
  · simp only [hs] at h ⊢
    split
    · rename_i hb
      rw [if_pos hb] at h
      cases h
    · rfl
theorem bytesOf_str {l : List Int} (hr : rng l) : bytesOf (strOfNums l) = l := by
  rw [bytesOf, strOfNums_data, List.map_map]
  conv => rhs; rw [← List.map_id l]
  refine List.map_congr_left fun x hx => ?_
  have := hr x hx
  simp only [Function.comp_apply, id_eq, UInt8.toNat_ofNat']
  omega
theorem str_bytesOf (s : ByteArray) : strOfNums (bytesOf s) = s := by
  apply ByteArray.ext
  apply Array.ext'
  show (bytesOf s).map (fun n => UInt8.ofNat n.toNat) = s.data.toList
  rw [bytesOf, List.map_map]
  conv => rhs; rw [← List.map_id s.data.toList]
  refine List.map_congr_left fun x _ => ?_
  simp
theorem bytesOf_rng (s : ByteArray) : rng (bytesOf s) := by
  intro x hx
  obtain ⟨b, _, rfl⟩ := List.mem_map.1 hx
  have := b.toNat_lt
  omega
theorem ltext_some {l : List Int} (hr : rng l) {most : Int} {r : List Int} (e : (ltext (some l) most).2 = some r) :
    nlay (ltext (some l) most).1.size 0 ++ bytesOf (ltext (some l) most).1 ++ r = l ∧ ((ltext (some l) most).1.size : Int) ≤ most ∧ rng r := by
  unfold ltext at e ⊢
  rcases hs : (luint (some l) most).2 with _ | l1
  · simp only [hs] at e; cases e
  · simp only [hs] at e ⊢
    have h := luint_some hr hs
    generalize (luint (some l) most).1 = n at h e
    by_cases hb : n ≤ (l1.length : Int)
    · rw [if_pos hb] at e ⊢
      simp only [Option.some.injEq] at e ⊢
      subst e
      have hrt : rng (l1.take n.toNat) := fun x hx => h.2.2.2.2 x (List.mem_of_mem_take hx)
      have hsz : (strOfNums (l1.take n.toNat)).size = n.toNat := by rw [strOfNums_size, List.length_take]; omega
      refine ⟨?_, by rw [hsz]; have := h.2.2.2.1; omega, fun x hx => h.2.2.2.2 x (List.mem_of_mem_drop hx)⟩
      rw [hsz, bytesOf_str hrt, List.append_assoc, List.take_append_drop]
      exact h.1
    · rw [if_neg hb] at e; cases e
/-- What was taken, laid again, is what it was taken off. -/
theorem qtake_lay {l : List Int} (hr : rng l) {k m : Int} {r : List Int} (e : (qtake (some l) k m).2 = some r) :
    qlay k (qtake (some l) k m).1.1 (qtake (some l) k m).1.2.1 (qtake (some l) k m).1.2.2 ++ r = l ∧ rng r := by
  unfold qtake at e ⊢
  unfold qlay
  by_cases h0 : k % 4 = 0
  · simp only [if_pos h0] at e ⊢
    have h := luint_some hr e
    exact ⟨h.1, h.2.2.2.2⟩
  · simp only [if_neg h0] at e ⊢
    by_cases h1 : k % 4 = 1
    · simp only [if_pos h1] at e ⊢
      have h := lint_some hr e
      exact ⟨h.1, h.2.2.2⟩
    · simp only [if_neg h1] at e ⊢
      by_cases h2 : k % 4 = 2
      · simp only [if_pos h2] at e ⊢
        have h := luint_some hr e
        generalize (luint (some l) 1).1 = n at h
        refine ⟨?_, h.2.2.2.2⟩
        have hn : n = 0 ∨ n = 1 := by have := h.2.2.2.1; have := h.2.1; omega
        rcases hn with rfl | rfl
        · exact h.1
        · exact h.1
      · simp only [if_neg h2] at e ⊢
        have h := ltext_some hr e
        exact ⟨h.1, h.2.2⟩
theorem qtake_none {s : Option (List Int)} {k m : Int} (e : (qtake s k m).2 = none) : (qtake s k m).1 = (0, 0, ⟨#[]⟩) := by
  unfold qtake at e ⊢
  by_cases h0 : k % 4 = 0
  · simp only [if_pos h0] at e ⊢
    rw [luint_none e]
  · simp only [if_neg h0] at e ⊢
    by_cases h1 : k % 4 = 1
    · simp only [if_pos h1] at e ⊢
      rw [lint_none e]
    · simp only [if_neg h1] at e ⊢
      by_cases h2 : k % 4 = 2
      · simp only [if_pos h2] at e ⊢
        rw [luint_none e]
        rfl
      · simp only [if_neg h2] at e ⊢
        rw [ltext_none e]
theorem qtake_bad (k m : Int) : (qtake none k m).2 = none := by
  have hn : numOf none = none := rfl
  unfold qtake
  split
  · simp [luint, hn]
  · split
    · simp [lint, hn]
    · split
      · simp [luint, hn]
      · simp [ltext, luint, hn]
theorem qtake_bd {s : Option (List Int)} (hs : ∀ l, s = some l → rng l ∧ l.length ≤ 1000) (k m : Int) :
    (0 ≤ (qtake s k m).1.1 ∧ (qtake s k m).1.1 ≤ 18446744073709551615) ∧ (-9223372036854775808 ≤ (qtake s k m).1.2.1 ∧ (qtake s k m).1.2.1 ≤ 9223372036854775807) ∧ (qtake s k m).1.2.2.size ≤ 1000 := by
  rcases he : (qtake s k m).2 with _ | r
  · rw [qtake_none he]
    exact ⟨⟨by decide, by decide⟩, ⟨by decide, by decide⟩, by decide⟩
  · rcases s with _ | l
    · rw [qtake_bad] at he; cases he
    · obtain ⟨hr, hl⟩ := hs l rfl
      unfold qtake at he ⊢
      by_cases h0 : k % 4 = 0
      · simp only [if_pos h0] at he ⊢
        have h := luint_some hr he
        exact ⟨⟨h.2.1, h.2.2.1⟩, ⟨by omega, by omega⟩, by decide⟩
      · simp only [if_neg h0] at he ⊢
        by_cases h1 : k % 4 = 1
        · simp only [if_pos h1] at he ⊢
          have h := lint_some hr he
          exact ⟨⟨by omega, by omega⟩, ⟨h.2.1, h.2.2.1⟩, by decide⟩
        · simp only [if_neg h1] at he ⊢
          by_cases h2 : k % 4 = 2
          · simp only [if_pos h2] at he ⊢
            exact ⟨by split <;> omega, ⟨by omega, by omega⟩, by decide⟩
          · simp only [if_neg h2] at he ⊢
            have h := ltext_some hr he
            refine ⟨⟨by omega, by omega⟩, ⟨by omega, by omega⟩, ?_⟩
            have := congrArg List.length h.1
            rw [List.length_append, List.length_append, bytesOf_length] at this
            omega
theorem qlay_zero (k : Int) : (qlay k 0 0 ⟨#[]⟩).length = 1 := by
  unfold qlay
  split
  · decide
  · split
    · decide
    · split
      · decide
      · decide
theorem qint_len (n : Int) (h0 : -9223372036854775808 ≤ n) (h1 : n ≤ 9223372036854775807) : (qint n).length ≤ 9 := by
  unfold qint
  split
  · rw [nlay_len]
    have := nsz_le (-1 - n).toNat (by omega)
    omega
  · rw [nlay_len]
    have := nsz_le n.toNat (by omega)
    omega
theorem qlay_len (k u i : Int) (s : ByteArray) (hu : 0 ≤ u ∧ u ≤ 18446744073709551615) (hi : -9223372036854775808 ≤ i ∧ i ≤ 9223372036854775807) (hs : s.size ≤ 1000) : (qlay k u i s).length ≤ 9 + s.size := by
  unfold qlay
  split
  · rw [nlay_len]
    have := nsz_le u.toNat (by omega)
    omega
  · split
    · have := qint_len i hi.1 hi.2
      omega
    · split
      · rw [nlay_len]
        split
        · have := nsz_le 1 (by omega)
          omega
        · have := nsz_le 0 (by omega)
          omega
      · rw [List.length_append, nlay_len, bytesOf_length]
        have := nsz_le s.size (by omega)
        omega
theorem bytesOf_inj {s t : ByteArray} (h : bytesOf s = bytesOf t) : s = t := by rw [← str_bytesOf s, h, str_bytesOf]
theorem ptext_inj {s t : ByteArray} (hs : s.size ≤ 100000) (ht : t.size ≤ 100000) (h : nlay s.size 0 ++ bytesOf s = nlay t.size 0 ++ bytesOf t) : s = t := by
  have h1 := inum_nlay s.size 0 (by omega) (.inl rfl) (bytesOf s)
  have h2 := inum_nlay t.size 0 (by omega) (.inl rfl) (bytesOf t)
  rw [h, h2] at h1
  injection h1 with h1
  injection h1 with _ h1
  injection h1 with _ h1
  exact bytesOf_inj h1.symm
theorem toList_data8 (s : ByteArray) : s.toList = s.data.toList := by
  obtain ⟨⟨l⟩⟩ := s
  exact ByteArray.toList_mk l
theorem bl_int (a b : Int) (ha : 0 ≤ a ∧ a ≤ 255) (hb : 0 ≤ b ∧ b ≤ 255) (l r : List UInt8) :
    Op.bytesLess (UInt8.ofNat a.toNat :: l) (UInt8.ofNat b.toNat :: r) = (decide (a < b) || (decide (a = b) && Op.bytesLess l r)) := by
  have e1 : (UInt8.ofNat a.toNat < UInt8.ofNat b.toNat) ↔ a < b := by
    rw [UInt8.lt_iff_toNat_lt, UInt8.toNat_ofNat', UInt8.toNat_ofNat']
    omega
  have e2 : (UInt8.ofNat a.toNat = UInt8.ofNat b.toNat) ↔ a = b := by
    constructor
    · intro h
      have := congrArg UInt8.toNat h
      rw [UInt8.toNat_ofNat', UInt8.toNat_ofNat'] at this
      omega
    · rintro rfl; rfl
  simp only [Op.bytesLess]
  by_cases c1 : a < b
  · simp [c1, e1.2 c1]
  · have n1 : ¬ UInt8.ofNat a.toNat < UInt8.ofNat b.toNat := fun h => c1 (e1.1 h)
    by_cases c2 : a = b
    · subst c2; simp
    · have n2 : ¬ UInt8.ofNat a.toNat = UInt8.ofNat b.toNat := fun h => c2 (e2.1 h)
      simp [c1, c2, n1, n2]
theorem less_same : ∀ (l m : List Int), rng l → rng m → l.length = m.length → Op.bytesLess (l.map fun n => UInt8.ofNat n.toNat) (m.map fun n => UInt8.ofNat n.toNat) = decide (vnat l < vnat m)
  | [], [], _, _, _ => rfl
  | [], _ :: _, _, _, h => by simp at h
  | _ :: _, [], _, _, h => by simp at h
  | a :: l, b :: m, hl, hm, h => by
    have ha := hl a (List.mem_cons_self ..)
    have hb := hm b (List.mem_cons_self ..)
    have hl' : rng l := fun x hx => hl x (List.mem_cons_of_mem _ hx)
    have hm' : rng m := fun x hx => hm x (List.mem_cons_of_mem _ hx)
    have hlen : l.length = m.length := by simpa using h
    rw [List.map_cons, List.map_cons, bl_int a b ha hb, less_same l m hl' hm' hlen, vnat, vnat, hlen]
    have v1 := vnat_lt l hl'
    have v2 := vnat_lt m hm'
    rw [hlen] at v1
    generalize 256 ^ m.length = p at v1 v2
    by_cases c1 : a < b
    · have : a.toNat * p + p ≤ b.toNat * p := by
        have h3 : (a.toNat + 1) * p ≤ b.toNat * p := Nat.mul_le_mul_right _ (by omega)
        rwa [Nat.add_mul, Nat.one_mul] at h3
      have h2 : a.toNat * p + vnat l < b.toNat * p + vnat m := by omega
      simp [c1, h2]
    · by_cases c2 : a = b
      · subst c2
        simp
      · have : b.toNat * p + p ≤ a.toNat * p := by
          have h3 : (b.toNat + 1) * p ≤ a.toNat * p := Nat.mul_le_mul_right _ (by omega)
          rwa [Nat.add_mul, Nat.one_mul] at h3
        have h2 : ¬ a.toNat * p + vnat l < b.toNat * p + vnat m := by omega
        simp [c1, c2, h2]
theorem nsz_mono {a b : Nat} (ha : a < 18446744073709551616) (hb : b < 18446744073709551616) (h : a ≤ b) : nsz a ≤ nsz b := by
  rcases Nat.eq_zero_or_pos a with h0 | h0
  · subst h0; rw [nsz_zero]; omega
  · obtain ⟨a1, a2, a3⟩ := nsz_bd a ha (by omega)
    obtain ⟨b1, b2, b3⟩ := nsz_bd b hb (by omega)
    have h3 : (256 : Nat) ^ (nsz a - 1) < 256 ^ nsz b := by omega
    have h5 := (Nat.pow_lt_pow_iff_right (a := 256) (by decide)).1 h3
    omega
theorem less_nlay (a b : Nat) (ha : a < 18446744073709551616) (hb : b < 18446744073709551616) : Op.bytesLess (strOfNums (nlay a 0)).toList (strOfNums (nlay b 0)).toList = decide (a < b) := by
  rw [toList_data8, toList_data8, strOfNums_data, strOfNums_data, nlay, nlay, List.map_cons, List.map_cons]
  have h1 := nsz_le a ha
  have h2 := nsz_le b hb
  rw [bl_int _ _ (by omega) (by omega)]
  by_cases c1 : nsz a < nsz b
  · have hab : a < b := by
      rcases Nat.lt_or_ge a b with h | h
      · exact h
      · have := nsz_mono hb ha h; omega
    have c1' : ((0 + nsz a : Nat) : Int) < ((0 + nsz b : Nat) : Int) := by omega
    simp [c1, hab]
  · by_cases c2 : nsz a = nsz b
    · rw [c2, less_same _ _ (nby_rng _ _) (nby_rng _ _) (by rw [nby_len, nby_len]), vnat_nby, vnat_nby]
      have e1 : a % 256 ^ nsz b = a := by
        rcases Nat.eq_zero_or_pos a with h | h
        · subst h; simp
        · have := (nsz_bd a ha (by omega)).2.1
          rw [c2] at this
          exact Nat.mod_eq_of_lt this
      have e2 : b % 256 ^ nsz b = b := by
        rcases Nat.eq_zero_or_pos b with h | h
        · subst h; simp
        · exact Nat.mod_eq_of_lt (nsz_bd b hb (by omega)).2.1
      rw [e1, e2]
      simp
    · have hab : ¬ a < b := fun h => by have := nsz_mono ha hb (Nat.le_of_lt h); omega
      have c3 : ¬ ((0 + nsz a : Nat) : Int) < ((0 + nsz b : Nat) : Int) := by omega
      have c4 : ¬ ((0 + nsz a : Nat) : Int) = ((0 + nsz b : Nat) : Int) := by omega
      simp only [decide_eq_false c3, decide_eq_false c4, decide_eq_false hab]
      rfl
theorem qint_rng (n : Int) (h0 : -9223372036854775808 ≤ n) (h1 : n ≤ 9223372036854775807) : rng (qint n) := by
  unfold qint
  split
  · exact nlay_rng _ _ (by omega) (by omega)
  · exact nlay_rng _ _ (by omega) (by omega)
theorem luint_nlay (n : Nat) (hn : n < 18446744073709551616) (r : List Int) (most : Int) : luint (some (nlay n 0 ++ r)) most = if (n : Int) ≤ most then ((n : Int), some r) else (0, none) := by
  have h := inum_nlay n 0 hn (.inl rfl) r
  have hu : luint (some (nlay n 0 ++ r)) most = match inum (nlay n 0 ++ r) with | some (n, m, r) => if m = true then (0, none) else if n ≤ most then (n, some r) else (0, none) | none => (0, none) := rfl
  rw [hu, h]
  rfl
theorem lint_qint (i : Int) (h0 : -9223372036854775808 ≤ i) (h1 : i ≤ 9223372036854775807) (r : List Int) : lint (some (qint i ++ r)) = (i, some r) := by
  have hu : ∀ l, lint (some l) = match inum l with | some (n, m, r) => if 9223372036854775808 ≤ n then (0, none) else if m = true then (-1 - n, some r) else (n, some r) | none => (0, none) := fun l => rfl
  rw [hu, qint]
  by_cases c : i < 0
  · rw [if_pos c, inum_nlay _ 128 (by omega) (.inr rfl) r]
    simp only [decide_true, if_true]
    rw [if_neg (by omega), show -1 - (((-1 - i).toNat : Nat) : Int) = i by omega]
  · rw [if_neg c, inum_nlay _ 0 (by omega) (.inl rfl) r]
    simp only [show decide ((0 : Nat) = 128) = false from rfl, Bool.false_eq_true, if_false]
    rw [if_neg (by omega), show ((i.toNat : Nat) : Int) = i by omega]

end Go.Proofs.YtdojgjbiilnjpaaDoor.M
