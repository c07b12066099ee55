/- The pure statement behind the law CoinReads, over numbers and lists alone. Conditions: those that the printed statement names (each number is of its kind). -/
import Derived.Test.YtkjofbdlholmbaaDoorDCoinReads
set_option linter.unusedVariables false
set_option linter.unusedSimpArgs false
namespace Go.Proofs.YtkjofbdlholmbaaDoor.PCoinReads
open Go.RowKit Go.Proofs.YtkjofbdlholmbaaDoorW.PrintWords Go.Proofs.YtkjofbdlholmbaaDoorW.PrintLast Go.Proofs.YtkjofbdlholmbaaDoorW.PrintMore

open Go.Lib
def valF (acc : Nat) : List UInt8 → Nat
  | [] => acc
  | c :: r => valF (acc * 10 + (c.toNat - 48)) r
theorem valF_ge : ∀ (l : List UInt8) (acc : Nat), acc ≤ valF acc l
  | [], acc => Nat.le_refl _
  | c :: r, acc => by
    have := valF_ge r (acc * 10 + (c.toNat - 48))
    unfold valF
    omega
theorem valF_append : ∀ (l r : List UInt8) (acc : Nat), valF acc (l ++ r) = valF (valF acc l) r
  | [], r, acc => rfl
  | c :: l, r, acc => valF_append l r _
theorem parse_val (M : Nat) (hM : M ≤ 18446744073709551615) : ∀ (l : List UInt8) (acc : Nat), (∀ b ∈ l, 48 ≤ b.toNat ∧ b.toNat ≤ 57) → valF acc l ≤ M → parseUintM M acc l = .ok (valF acc l)
  | [], acc, _, _ => rfl
  | c :: r, acc, hb, h => by
    have hc := hb c (List.mem_cons_self ..)
    have hg := valF_ge r (acc * 10 + (c.toNat - 48))
    have h' : valF (acc * 10 + (c.toNat - 48)) r ≤ M := h
    unfold parseUintM
    rw [if_pos hc, if_neg (by omega), if_neg (by omega)]
    exact parse_val M hM r _ (fun b hm => hb b (List.mem_cons_of_mem _ hm)) h'
theorem ofNat_toNat (d : Nat) (h : d < 10) : (UInt8.ofNat (48 + d)).toNat = 48 + d := by
  simp [UInt8.toNat_ofNat']; omega
theorem dd_range (u : Nat) : ∀ b ∈ decDigits u, 48 ≤ b.toNat ∧ b.toNat ≤ 57 := by
  induction u using Nat.strongRecOn with
  | _ u ih =>
    intro b hb
    rw [decDigits] at hb
    split at hb
    · rename_i h
      rw [List.mem_singleton.1 hb, ofNat_toNat u h]; omega
    · rename_i h
      rcases List.mem_append.1 hb with hb | hb
      · exact ih (u / 10) (by omega) b hb
      · rw [List.mem_singleton.1 hb, ofNat_toNat (u % 10) (by omega)]; omega
theorem dd_val (u : Nat) : valF 0 (decDigits u) = u := by
  induction u using Nat.strongRecOn with
  | _ u ih =>
    rw [decDigits]
    split
    · rename_i h
      show 0 * 10 + ((UInt8.ofNat (48 + u)).toNat - 48) = u
      rw [ofNat_toNat u h]; omega
    · rename_i h
      rw [valF_append, ih (u / 10) (by omega)]
      show (u / 10) * 10 + ((UInt8.ofNat (48 + u % 10)).toNat - 48) = u
      rw [ofNat_toNat (u % 10) (by omega)]; omega
theorem dd_ne (u : Nat) : decDigits u ≠ [] := by
  rw [decDigits]; split <;> simp
theorem dd_head (u : Nat) (hu : 1 ≤ u) : (decDigits u).getD 0 0 ≠ 48 := by
  induction u using Nat.strongRecOn with
  | _ u ih =>
    rw [decDigits]
    split
    · rename_i h
      intro e
      have e' : UInt8.ofNat (48 + u) = 48 := by simpa using e
      have := congrArg UInt8.toNat e'
      rw [ofNat_toNat u h] at this
      have h48 : (48 : UInt8).toNat = 48 := rfl
      omega
    · rename_i h
      have h1 := ih (u / 10) (by omega) (by omega)
      have h2 := dd_ne (u / 10)
      cases hd : decDigits (u / 10) with
      | nil => exact absurd hd h2
      | cons x xs => rw [hd] at h1; simpa using h1
theorem dd_head' (u : Nat) (h : 1 < (decDigits u).length) : (decDigits u).getD 0 0 ≠ 48 := by
  refine dd_head u ?_
  rcases Nat.eq_zero_or_pos u with rfl | h'
  · rw [decDigits_one (by omega)] at h; simp at h
  · exact h'
theorem index_dot : ∀ (l t : List UInt8), (∀ b ∈ l, b ≠ 46) → index (l ++ 46 :: t) [46] = l.length
  | [], t, _ => by simp [index]
  | c :: l, t, h => by
    have ih := index_dot l t (fun b hb => h b (List.mem_cons_of_mem _ hb))
    have hc := h c (List.mem_cons_self ..)
    have hp : ([46] : List UInt8).isPrefixOf (c :: (l ++ 46 :: t)) = false := by simp [List.isPrefixOf]; exact fun e => hc e.symm
    show index (c :: (l ++ 46 :: t)) [46] = _
    rw [index, hp, ih]
    simp
theorem cut_dot (l t : List UInt8) (h : ∀ b ∈ l, b ≠ 46) : cut (l ++ 46 :: t) [46] = (l, t, true) := by
  unfold cut
  rw [index_dot l t h, if_pos (by omega)]
  simp
theorem trim_minus (l : List UInt8) : trimPrefix (45 :: l) [45] = l := by simp [trimPrefix, hasPrefix, List.isPrefixOf]
theorem trim_plain (l : List UInt8) (h : l.head? ≠ some 45) : trimPrefix l [45] = l := by
  unfold trimPrefix hasPrefix
  cases l with
  | nil => simp [List.isPrefixOf]
  | cons x xs =>
    have : x ≠ 45 := fun e => h (by rw [e]; rfl)
    rw [if_neg]
    simp [List.isPrefixOf]; exact fun e => this e.symm

theorem dd_len (u : Nat) : (decDigits u).length ≤ u + 1 := by
  induction u using Nat.strongRecOn with
  | _ u ih =>
    rw [decDigits]
    split
    · simp
    · rename_i h
      have := ih (u / 10) (by omega)
      simp only [List.length_append, List.length_cons, List.length_nil]
      omega
def mtext (neg : Bool) (M : Nat) : List UInt8 := ((if neg then [45] else []) ++ decDigits (M / 100)) ++ [46, UInt8.ofNat (48 + M % 100 / 10), UInt8.ofNat (48 + M % 10)]
theorem w64 (x : Int) (h0 : 0 ≤ x) (h1 : x ≤ 18446744073709551615) : IntKind.u64.wrap x = x := by
  simp only [IntKind.wrap, IntKind.bits, IntKind.signed]
  simp
  omega
theorem wneg (a : Int) (h0 : -9223372036854775808 ≤ a) (h1 : a < 0) : IntKind.u64.wrap (-(IntKind.u64.wrap a)) = (a.natAbs : Int) := by
  simp only [IntKind.wrap, IntKind.bits, IntKind.signed]
  simp
  omega
theorem wneg2 (a : Int) (h0 : -9223372036854775808 ≤ a) (h1 : a < 0) : IntKind.u64.wrap ((IntKind.u64.wrap (wrap64 (-(wrap64 (a + 1))))) + 1) = (a.natAbs : Int) := by
  rw [show wrap64 (a + 1) = a + 1 by unfold wrap64; omega, show wrap64 (-(a + 1)) = -(a + 1) by unfold wrap64; omega, w64 (-(a + 1)) (by omega) (by omega), w64 _ (by omega) (by omega)]
  omega
theorem fu_eq (u : Nat) (h : u ≤ 18446744073709551615) : strconv_FormatUint.f (u : Int) 10 = some ⟨(decDigits u).toArray⟩ := by
  unfold strconv_FormatUint.f
  rw [if_pos ⟨⟨by omega, by omega⟩, rfl⟩]
  simp
theorem nums2 (x y : Nat) (hx : x < 10) (hy : y < 10) : strOfNums [((48 + x : Nat) : Int) % 256, ((48 + y : Nat) : Int) % 256] = ⟨#[UInt8.ofNat (48 + x), UInt8.ofNat (48 + y)]⟩ := by
  have h : ∀ (p : Fin 10) (q : Fin 10), strOfNums [((48 + p.val : Nat) : Int) % 256, ((48 + q.val : Nat) : Int) % 256] = ⟨#[UInt8.ofNat (48 + p.val), UInt8.ofNat (48 + q.val)]⟩ := by decide +kernel
  exact h ⟨x, hx⟩ ⟨y, hy⟩
theorem ba_cat (l r : List UInt8) : (⟨l.toArray⟩ : ByteArray) ++ ⟨r.toArray⟩ = ⟨(l ++ r).toArray⟩ := by
  apply ByteArray.ext
  simp
theorem ba_size (l : List UInt8) : (⟨l.toArray⟩ : ByteArray).size = l.length := by simp [ByteArray.size]
theorem tail_words (M : Nat) (hM : M ≤ 9223372036854775808) :
    (IntKind.u64.wrap (Int.tdiv (M : Int) 100) = ((M / 100 : Nat) : Int)) ∧ (IntKind.u64.wrap (48 + (IntKind.u64.wrap (Int.tdiv (Int.tmod (M : Int) 100) 10))) % 256 = ((48 + M % 100 / 10 : Nat) : Int) % 256) ∧ (IntKind.u64.wrap (48 + (Int.tmod (Int.tmod (M : Int) 100) 10)) % 256 = ((48 + M % 10 : Nat) : Int) % 256) := by
  have e1 : Int.tdiv (M : Int) 100 = ((M / 100 : Nat) : Int) := rfl
  have e2 : Int.tdiv (Int.tmod (M : Int) 100) 10 = ((M % 100 / 10 : Nat) : Int) := rfl
  have e3 : Int.tmod (Int.tmod (M : Int) 100) 10 = ((M % 100 % 10 : Nat) : Int) := rfl
  rw [e1, e2, e3, w64 _ (by omega) (by omega), w64 ((M % 100 / 10 : Nat) : Int) (by omega) (by omega), w64 _ (by omega) (by omega), w64 _ (by omega) (by omega)]
  refine ⟨rfl, by omega, by omega⟩
theorem text_eq (a : Int) (h : -9223372036854775808 ≤ a ∧ a ≤ 9223372036854775807) : coin_Coin_Text.f a = some ⟨(mtext (decide (a < 0)) a.natAbs).toArray⟩ := by
  unfold coin_Coin_Text.f
  obtain ⟨M, hM⟩ : ∃ M, M = a.natAbs := ⟨_, rfl⟩
  obtain ⟨t1, t2, t3⟩ := tail_words M (by omega)
  have hl := dd_len (M / 100)
  by_cases c : a < 0
  · rw [if_pos c, wneg a h.1 c, ← hM, t1, t2, t3, fu_eq (M / 100) (by omega)]
    simp only [Option.bind_some]
    rw [nums2 _ _ (by omega) (by omega)]
    rw [show (⟨#[45]⟩ : ByteArray) = ⟨([45] : List UInt8).toArray⟩ from rfl, show (⟨#[46]⟩ : ByteArray) = ⟨([46] : List UInt8).toArray⟩ from rfl]
    rw [show (⟨#[UInt8.ofNat (48 + M % 100 / 10), UInt8.ofNat (48 + M % 10)]⟩ : ByteArray) = ⟨([UInt8.ofNat (48 + M % 100 / 10), UInt8.ofNat (48 + M % 10)] : List UInt8).toArray⟩ from rfl]
    simp only [ba_cat, ba_size]
    rw [if_pos (by omega), if_pos (by simp; omega), if_pos (by simp; omega)]
    simp [mtext, c]
  · have hw : IntKind.u64.wrap a = (M : Int) := by rw [w64 a (by omega) (by omega)]; omega
    rw [if_neg c, hw, t1, t2, t3, fu_eq (M / 100) (by omega)]
    simp only [Option.bind_some]
    rw [nums2 _ _ (by omega) (by omega)]
    rw [show (⟨#[]⟩ : ByteArray) = ⟨([] : List UInt8).toArray⟩ from rfl, show (⟨#[46]⟩ : ByteArray) = ⟨([46] : List UInt8).toArray⟩ from rfl]
    rw [show (⟨#[UInt8.ofNat (48 + M % 100 / 10), UInt8.ofNat (48 + M % 10)]⟩ : ByteArray) = ⟨([UInt8.ofNat (48 + M % 100 / 10), UInt8.ofNat (48 + M % 10)] : List UInt8).toArray⟩ from rfl]
    simp only [ba_cat, ba_size]
    rw [if_pos (by omega), if_pos (by simp; omega), if_pos (by simp; omega), ← hM]
    simp [mtext, c]

theorem ndig_le (u : Nat) (h : u < 10 ^ 24) : nDigits u ≤ 25 := by
  rw [← decDigits_length]
  have key : ∀ (n u : Nat), u < 10 ^ (n + 1) → (decDigits u).length ≤ n + 1 := by
    intro n
    induction n with
    | zero => intro u h; rw [decDigits_one (by omega)]; simp
    | succ n ih =>
      intro u h
      rw [decDigits]
      split
      · simp
      · have := ih (u / 10) (by rw [Nat.pow_succ] at h; omega)
        simp only [List.length_append, List.length_cons, List.length_nil]
        omega
  exact Nat.le_trans (key 23 u h) (by omega)

def twoT (M : Nat) : List UInt8 := [UInt8.ofNat (48 + M % 100 / 10), UInt8.ofNat (48 + M % 10)]
theorem twoT_range (M : Nat) : ∀ b ∈ twoT M, 48 ≤ b.toNat ∧ b.toNat ≤ 57 := by
  intro b hb
  simp only [twoT, List.mem_cons, List.not_mem_nil, or_false] at hb
  rcases hb with rfl | rfl
  · rw [ofNat_toNat _ (by omega)]; omega
  · rw [ofNat_toNat _ (by omega)]; omega

/-- A text of money, as it is written: the sign, the number, two digits behind the point. -/
def Good (l : List UInt8) (neg : Bool) (x : List UInt8) (p q : UInt8) : Prop :=
  l = ((if neg then [45] else []) ++ x) ++ [46, p, q] ∧ x ≠ [] ∧ (∀ b ∈ x ++ [p, q], 48 ≤ b.toNat ∧ b.toNat ≤ 57) ∧ (1 < x.length → x.getD 0 0 ≠ 48)
theorem u8_48 (c : UInt8) (h : 48 ≤ c.toNat) : UInt8.ofNat (48 + (c.toNat - 48)) = c := by
  rw [show 48 + (c.toNat - 48) = c.toNat by omega]
  exact UInt8.ofNat_toNat
theorem canon : ∀ (n : Nat) (x : List UInt8), x.length = n → (∀ b ∈ x, 48 ≤ b.toNat ∧ b.toNat ≤ 57) → x ≠ [] → (1 < x.length → x.getD 0 0 ≠ 48) → decDigits (valF 0 x) = x := by
  intro n
  induction n with
  | zero => intro x hn _ hne _; exact absurd (List.eq_nil_of_length_eq_zero hn) hne
  | succ n ih =>
    intro x hn hr hne hh
    obtain ⟨y, c, rfl⟩ : ∃ y c, x = y ++ [c] := ⟨x.dropLast, x.getLast hne, (List.dropLast_concat_getLast hne).symm⟩
    have hc := hr c (by simp)
    have hyr : ∀ b ∈ y, 48 ≤ b.toNat ∧ b.toNat ≤ 57 := fun b hb => hr b (List.mem_append_left _ hb)
    have hyl : y.length = n := by simp at hn; exact hn
    rw [valF_append]
    show decDigits (valF 0 y * 10 + (c.toNat - 48)) = y ++ [c]
    cases hy : y with
    | nil =>
      show decDigits (0 * 10 + (c.toNat - 48)) = [c]
      rw [decDigits_one (by omega), Nat.zero_mul, Nat.zero_add, u8_48 c hc.1]
    | cons d r =>
      have hlen : 1 < (y ++ [c]).length := by rw [hy]; simp
      have hd : d ≠ 48 := by have := hh hlen; rw [hy] at this; simpa using this
      have hdr := hyr d (by rw [hy]; simp)
      have hd2 : 49 ≤ d.toNat := by
        have : d.toNat ≠ 48 := fun e => hd (UInt8.toNat_inj.mp (by rw [e]; rfl))
        omega
      have hpos : 1 ≤ valF 0 y := by
        rw [hy]
        have := valF_ge r (0 * 10 + (d.toNat - 48))
        show 1 ≤ valF (0 * 10 + (d.toNat - 48)) r
        omega
      have hi := ih y hyl hyr (by rw [hy]; simp) (fun _ => by rw [hy]; simpa using hd)
      rw [← hy, decDigits, dif_neg (by omega), show (valF 0 y * 10 + (c.toNat - 48)) / 10 = valF 0 y by omega, show (valF 0 y * 10 + (c.toNat - 48)) % 10 = c.toNat - 48 by omega, hi, u8_48 c hc.1]
theorem good_text {l : List UInt8} {neg : Bool} {x : List UInt8} {p q : UInt8} (h : Good l neg x p q) : mtext neg (valF 0 (x ++ [p, q])) = l := by
  obtain ⟨hl, hne, hr, hh⟩ := h
  have hp := hr p (by simp)
  have hq := hr q (by simp)
  have hc := canon x.length x rfl (fun b hb => hr b (List.mem_append_left _ hb)) hne hh
  have hv : valF 0 (x ++ [p, q]) = (valF 0 x * 10 + (p.toNat - 48)) * 10 + (q.toNat - 48) := by rw [valF_append]; rfl
  unfold mtext
  rw [hv, show ((valF 0 x * 10 + (p.toNat - 48)) * 10 + (q.toNat - 48)) / 100 = valF 0 x by omega, show ((valF 0 x * 10 + (p.toNat - 48)) * 10 + (q.toNat - 48)) % 100 / 10 = p.toNat - 48 by omega, show ((valF 0 x * 10 + (p.toNat - 48)) * 10 + (q.toNat - 48)) % 10 = q.toNat - 48 by omega, hc, u8_48 p hp.1, u8_48 q hq.1, hl]
theorem parse_big (M : Nat) : ∀ (l : List UInt8) (acc : Nat), (∀ b ∈ l, 48 ≤ b.toNat ∧ b.toNat ≤ 57) → acc ≤ M → M < valF acc l → parseUintM M acc l = .range
  | [], acc, _, h1, h2 => absurd h2 (by show ¬ M < acc; omega)
  | c :: r, acc, hb, h1, h2 => by
    have hc := hb c (List.mem_cons_self ..)
    unfold parseUintM
    rw [if_pos hc]
    by_cases a : 1844674407370955162 ≤ acc
    · rw [if_pos a]
    · rw [if_neg a]
      by_cases b : M < acc * 10 + (c.toNat - 48)
      · rw [if_pos b]
      · rw [if_neg b]
        exact parse_big M r _ (fun b hm => hb b (List.mem_cons_of_mem _ hm)) (by omega) h2
theorem uint_dec (d : List UInt8) (hne : d ≠ []) (hr : ∀ b ∈ d, 48 ≤ b.toNat ∧ b.toNat ≤ 57) : parseUintB 64 d = if valF 0 d ≤ 18446744073709551615 then .ok (valF 0 d) else .range := by
  unfold parseUintB
  rw [if_neg hne]
  by_cases c : valF 0 d ≤ 18446744073709551615
  · rw [if_pos c, parse_val _ (by decide) d 0 hr c]
  · rw [if_neg c, parse_big _ d 0 hr (by decide) (by omega)]
theorem int_dec (neg : Bool) (d : List UInt8) (hne : d ≠ []) (hr : ∀ b ∈ d, 48 ≤ b.toNat ∧ b.toNat ≤ 57) :
    parseIntB 64 ((if neg then [45] else []) ++ d) = if valF 0 d ≤ (if neg then 9223372036854775808 else 9223372036854775807) then .ok (if neg then -(valF 0 d : Int) else (valF 0 d : Int)) else .range := by
  have hu := uint_dec d hne hr
  cases neg with
  | true =>
    show parseIntB 64 (45 :: d) = _
    rw [parseIntB_minus, hu]
    simp only [if_true]
    by_cases c : valF 0 d ≤ 18446744073709551615
    · rw [if_pos c]
      show (if 2 ^ (64 - 1) < valF 0 d then NumEnd.range else NumEnd.ok (-(valF 0 d : Int))) = _
      by_cases e : valF 0 d ≤ 9223372036854775808
      · rw [if_pos e, if_neg (by omega)]
      · rw [if_neg e, if_pos (by omega)]
    · rw [if_neg c, if_neg (by omega)]
      rfl
  | false =>
    simp only [Bool.false_eq_true, if_false]
    cases d with
    | nil => exact absurd rfl hne
    | cons c r =>
      have hc := hr c (List.mem_cons_self ..)
      rw [show ([] : List UInt8) ++ c :: r = c :: r from rfl, parseIntB_plain 64 c r (by omega) (by omega), hu]
      by_cases a : valF 0 (c :: r) ≤ 18446744073709551615
      · rw [if_pos a]
        show (if 2 ^ (64 - 1) ≤ valF 0 (c :: r) then NumEnd.range else NumEnd.ok ((valF 0 (c :: r) : Nat) : Int)) = _
        by_cases e : valF 0 (c :: r) ≤ 9223372036854775807
        · rw [if_pos e, if_neg (by omega)]
        · rw [if_neg e, if_pos (by omega)]
      · rw [if_neg a, if_neg (by omega)]
        rfl
theorem index_spec : ∀ (l : List UInt8), 0 ≤ index l [46] → l = l.take (index l [46]).toNat ++ 46 :: l.drop ((index l [46]).toNat + 1)
  | [], h => by simp [index] at h
  | c :: r, h => by
    by_cases e : c = 46
    · subst e
      have hi : index (46 :: r) [46] = 0 := by rw [index]; simp [List.isPrefixOf]
      rw [hi]
      simp
    · have hp : ([46] : List UInt8).isPrefixOf (c :: r) = false := by simp [List.isPrefixOf]; exact fun x => e x.symm
      have hi : index (c :: r) [46] = if index r [46] == -1 then -1 else index r [46] + 1 := by rw [index, hp]; simp
      by_cases m : index r [46] = -1
      · rw [hi, m] at h
        simp at h
      · have hi2 : index (c :: r) [46] = index r [46] + 1 := by rw [hi]; simp [m]
        have hlow : ∀ (l : List UInt8), -1 ≤ index l [46] := by
          intro l
          induction l with
          | nil => simp [index]
          | cons d t ih =>
            rw [index]
            split
            · omega
            · split
              · omega
              · omega
        have h0 : 0 ≤ index r [46] := by have := hlow r; omega
        have ih := index_spec r h0
        rw [hi2, show (index r [46] + 1).toNat = (index r [46]).toNat + 1 by omega]
        rw [List.take_succ_cons, List.drop_succ_cons, List.cons_append, ← ih]
theorem cut_true {l wh pa : List UInt8} (h : cut l [46] = (wh, pa, true)) : l = wh ++ 46 :: pa := by
  unfold cut at h
  by_cases c : 0 ≤ index l [46]
  · rw [if_pos c] at h
    simp only [Prod.mk.injEq] at h
    obtain ⟨rfl, rfl, _⟩ := h
    exact index_spec l c
  · rw [if_neg c] at h
    simp at h
theorem trim_spec (wh : List UInt8) : (∃ x, wh = 45 :: x ∧ trimPrefix wh [45] = x) ∨ (wh.head? ≠ some 45 ∧ trimPrefix wh [45] = wh) := by
  by_cases c : wh.head? = some 45
  · cases wh with
    | nil => simp at c
    | cons d x =>
      have : d = 45 := by simpa using c
      subst this
      exact .inl ⟨x, rfl, trim_minus x⟩
  · exact .inr ⟨c, trim_plain wh c⟩
theorem good_cut {l : List UInt8} {neg : Bool} {x : List UInt8} {p q : UInt8} (h : Good l neg x p q) : cut l [46] = ((if neg then [45] else []) ++ x, [p, q], true) ∧ trimPrefix ((if neg then [45] else []) ++ x) [45] = x := by
  obtain ⟨hl, hne, hr, hh⟩ := h
  have hx : ∀ b ∈ x, 48 ≤ b.toNat ∧ b.toNat ≤ 57 := fun b hb => hr b (List.mem_append_left _ hb)
  constructor
  · rw [hl]
    refine cut_dot _ [p, q] ?_
    intro b hb e
    rcases List.mem_append.1 hb with hb | hb
    · cases neg with
      | true => rw [List.mem_singleton.1 hb] at e; exact absurd e (by decide)
      | false => exact absurd hb (by simp)
    · have := hx b hb
      rw [e] at this
      exact absurd this (by decide)
  · cases neg with
    | true => exact trim_minus x
    | false =>
      refine trim_plain x ?_
      cases x with
      | nil => exact absurd rfl hne
      | cons c r =>
        intro e
        have e' : c = 45 := by simpa using e
        have := hx c (List.mem_cons_self ..)
        rw [e'] at this
        exact absurd this (by decide)
theorem coin_good {l : List UInt8} {neg : Bool} {x : List UInt8} {p q : UInt8} (h : Good l neg x p q) (hl : l.length ≤ 40) :
    coin_Read.f ⟨l.toArray⟩ = if valF 0 (x ++ [p, q]) ≤ (if neg then 9223372036854775808 else 9223372036854775807) then (if neg = true ∧ valF 0 (x ++ [p, q]) = 0 then some (0, some 15) else some ((if neg then -(valF 0 (x ++ [p, q]) : Int) else (valF 0 (x ++ [p, q]) : Int)), none)) else some (0, some 12) := by
  obtain ⟨c1, c2⟩ := good_cut h
  have ht := good_text h
  obtain ⟨e, hne, hr, hh⟩ := h
  have hlen : x.length ≤ 40 := by rw [e] at hl; simp at hl; omega
  have hsl : ((if neg then [45] else []) ++ x : List UInt8).length ≤ 41 := by cases neg <;> simp <;> omega
  have hsz : (⟨l.toArray⟩ : ByteArray).size ≤ 1000 := by rw [ba_size]; omega
  have hi := int_dec neg (x ++ [p, q]) (by simp) hr
  unfold coin_Read.f
  rw [show (⟨l.toArray⟩ : ByteArray).data.toList = l by simp, c1]
  simp only
  rw [c2, if_pos ⟨hsz, by omega, by omega⟩, if_pos ⟨trivial, rfl⟩, if_pos hr, if_neg hne, if_neg (fun k => hh k.1 k.2), List.append_assoc, hi]
  generalize hN : valF 0 (x ++ [p, q]) = N at ht ⊢
  by_cases c : N ≤ (if neg then 9223372036854775808 else 9223372036854775807)
  · rw [if_pos c, if_pos c]
    simp only
    cases neg with
    | true =>
      have c' : N ≤ 9223372036854775808 := by simpa using c
      simp only [if_true, true_and]
      rw [text_eq _ (by omega)]
      simp only [Option.bind_some, Int.natAbs_neg, Int.natAbs_natCast]
      by_cases z : N = 0
      · subst z
        rw [if_pos rfl, if_neg]
        intro k
        have k2 : mtext (decide (-((0 : Nat) : Int) < 0)) 0 = l := by
          have := congrArg (fun b : ByteArray => b.data.toList) k
          simpa using this
        rw [← ht] at k2
        simp [mtext, decDigits_one] at k2
      · rw [if_neg z, decide_eq_true (show -((N : Nat) : Int) < 0 by omega), ht, if_pos rfl]
    | false =>
      have c' : N ≤ 9223372036854775807 := by simpa using c
      simp only [Bool.false_eq_true, if_false, false_and]
      rw [text_eq _ (by omega)]
      simp only [Option.bind_some, Int.natAbs_natCast]
      rw [decide_eq_false (show ¬ ((N : Nat) : Int) < 0 by omega), ht, if_pos rfl]
  · rw [if_neg c, if_neg c]
theorem cut_len (l : List UInt8) : (cut l [46]).1.length ≤ l.length := by
  unfold cut
  split
  · simp [List.length_take]; omega
  · simp
theorem trim_len (l : List UInt8) : (trimPrefix l [45]).length ≤ l.length := by
  unfold trimPrefix
  split
  · simp
  · exact Nat.le_refl _
theorem coin_bad {l : List UInt8} (hl : l.length ≤ 40) (h : ∀ neg x p q, ¬ Good l neg x p q) : coin_Read.f ⟨l.toArray⟩ = some (0, some 15) := by
  have h1 := cut_len l
  have h2 := trim_len (cut l [46]).1
  have hsz : (⟨l.toArray⟩ : ByteArray).size ≤ 1000 := by rw [ba_size]; omega
  unfold coin_Read.f
  rw [show (⟨l.toArray⟩ : ByteArray).data.toList = l by simp, if_pos ⟨hsz, by omega, by omega⟩]
  generalize hcut : cut l [46] = C
  obtain ⟨wl, pl, ok⟩ := C
  simp only
  by_cases c1 : ok = true ∧ pl.length = 2
  · rw [if_pos c1]
    obtain ⟨rfl, c2⟩ := c1
    have hle := cut_true hcut
    obtain ⟨p, q, rfl⟩ : ∃ p q, pl = [p, q] := by
      match pl, c2 with
      | [p, q], _ => exact ⟨p, q, rfl⟩
    by_cases c3 : ∀ b ∈ trimPrefix wl [45] ++ [p, q], 48 ≤ b.toNat ∧ b.toNat ≤ 57
    · rw [if_pos c3]
      by_cases c4 : trimPrefix wl [45] = []
      · rw [if_pos c4]
      · rw [if_neg c4]
        by_cases c5 : 1 < (trimPrefix wl [45]).length ∧ (trimPrefix wl [45]).getD 0 0 = 48
        · rw [if_pos c5]
        · exfalso
          rcases trim_spec wl with ⟨x, e1, e2⟩ | ⟨_, e2⟩
          · rw [e2] at c3 c4 c5
            exact h true x p q ⟨by rw [hle, e1]; simp, c4, c3, fun k e => c5 ⟨k, e⟩⟩
          · rw [e2] at c3 c4 c5
            exact h false wl p q ⟨by rw [hle]; simp, c4, c3, fun k e => c5 ⟨k, e⟩⟩
    · rw [if_neg c3]
  · rw [if_neg c1]

theorem bt_l (l : List UInt8) (j : Nat) : bt ⟨l.toArray⟩ (j : Int) = ((l.getD j 0).toNat : Int) := by
  unfold bt
  by_cases h : j < l.length
  · have h' : (j : Int).toNat < (⟨l.toArray⟩ : ByteArray).size := by rw [ba_size]; omega
    rw [dif_pos h']
    have e : l.getD j 0 = l[j] := by unfold List.getD; rw [List.getElem?_eq_getElem h]; rfl
    rw [e]
    rfl
  · rw [dif_neg (by rw [ba_size]; omega)]
    have e : l.getD j 0 = 0 := by unfold List.getD; rw [List.getElem?_eq_none (by omega)]; rfl
    rw [e]
    rfl
theorem ex_l (l : List UInt8) (a b : Nat) (hb : b ≤ l.length) : (⟨l.toArray⟩ : ByteArray).extract a b = ⟨((l.take b).drop a).toArray⟩ := by
  apply ByteArray.ext
  rw [ByteArray.data_extract]
  apply Array.toList_inj.mp
  rw [Array.toList_extract]
  simp [List.extract_eq_take_drop, List.drop_take]
/-- The document's number, digit by digit; the second: it is too great. -/
def rl : List UInt8 → Nat → Bool → Nat × Bool
  | [], n, o => (n, o)
  | c :: r, n, o => if 922337203685477580 < n then rl r n true else if o = true then rl r n o else rl r (10 * n + (c.toNat - 48)) o
/-- What it tells. -/
def fin (neg : Bool) (n : Nat) (o : Bool) : Int × Int :=
  if o = true ∨ (neg = false ∧ 9223372036854775807 < n) ∨ 9223372036854775808 < n then (0, 12) else if neg = true ∧ n = 0 then (0, 15) else (if neg = true then -(n : Int) else (n : Int), 0)
theorem j6_eq (k : Nat) (neg : Bool) (n : Nat) (b : Bool) (h0 : b = true ∨ neg = false ∨ 1 ≤ n) (hn : n ≤ (if neg then 9223372036854775808 else 9223372036854775807)) :
    arrearsref04_Read.j6 (k + 1) neg (n : Int) b = some (if b = true then (0, 15) else (if neg = true then -(n : Int) else (n : Int), 0)) := by
  rw [arrearsref04_Read.j6]
  cases b with
  | true => rfl
  | false =>
    cases neg with
    | true =>
      have hn' : n ≤ 9223372036854775808 := by simpa using hn
      have h1 : 1 ≤ n := by rcases h0 with h | h | h <;> simp_all
      have e : wrap64 (wrap64 (-(wrap64 ((n : Int) - 1))) - 1) = -(n : Int) := by unfold wrap64; omega
      simp only [Bool.false_eq_true, if_false, if_true]
      rw [w64 ((n : Int) - 1) (by omega) (by omega), e]
    | false =>
      have hn' : n ≤ 9223372036854775807 := by simpa using hn
      have e : wrap64 (n : Int) = n := by unfold wrap64; omega
      simp only [Bool.false_eq_true, if_false]
      rw [e]
theorem j5_eq (k : Nat) (neg : Bool) (n : Nat) (b : Bool) (hn : b = true ∨ n ≤ (if neg then 9223372036854775808 else 9223372036854775807)) :
    arrearsref04_Read.j5 (k + 2) neg (n : Int) b = some (if b = true then (0, 12) else if neg = true ∧ n = 0 then (0, 15) else (if neg = true then -(n : Int) else (n : Int), 0)) := by
  rw [arrearsref04_Read.j5]
  cases b with
  | true => rfl
  | false =>
    have hn' : n ≤ (if neg then 9223372036854775808 else 9223372036854775807) := by rcases hn with h | h; exact absurd h (by decide); exact h
    cases neg with
    | true =>
      by_cases z : n = 0
      · subst z
        have e : (((0 : Nat) : Int) == 0) = true := rfl
        rw [e, j6_eq k true 0 true (.inl rfl) hn']
        simp
      · have e : (((n : Nat) : Int) == 0) = false := by simp; omega
        rw [e, j6_eq k true n false (.inr (.inr (by omega))) hn']
        simp [z]
    | false =>
      rw [j6_eq k false n false (.inr (.inl rfl)) hn']
      simp
theorem l0_end (k : Nat) (neg : Bool) (d : List UInt8) (n : Nat) (o : Bool) (i : Nat) (hi : d.length ≤ i) :
    arrearsref04_Read.l0 (k + 3) neg ⟨d.toArray⟩ (n : Int) o (i : Int) = some (fin neg n o) := by
  have hsz : ¬ (i : Int) < (((⟨d.toArray⟩ : ByteArray).size : Nat) : Int) := by rw [ba_size]; omega
  rw [arrearsref04_Read.l0, if_neg hsz]
  unfold fin
  cases o with
  | true =>
    rw [j5_eq k neg n true (.inl rfl)]
    simp
  | false =>
    cases neg with
    | true =>
      by_cases c : 9223372036854775808 < n
      · rw [decide_eq_true (show (n : Int) > 9223372036854775808 by omega), j5_eq k true n true (.inl rfl)]
        simp [c]
      · rw [decide_eq_false (show ¬ (n : Int) > 9223372036854775808 by omega), j5_eq k true n false (.inr (by simp; omega))]
        simp [c]
    | false =>
      by_cases c : 9223372036854775807 < n
      · rw [if_pos (show (n : Int) > 9223372036854775807 by omega), j5_eq k false n true (.inl rfl)]
        simp [c]
      · have c2 : ¬ 9223372036854775808 < n := by omega
        rw [if_neg (show ¬ (n : Int) > 9223372036854775807 by omega), decide_eq_false (show ¬ (n : Int) > 9223372036854775808 by omega), j5_eq k false n false (.inr (by simp; omega))]
        simp [c, c2]
theorem l0_eq (neg : Bool) (d : List UInt8) (hd : d.length ≤ 1000) : ∀ (m k i n : Nat) (o : Bool), d.length - i = m → i ≤ d.length → n ≤ 9223372036854775809 →
    arrearsref04_Read.l0 (k + 2 * m + 3) neg ⟨d.toArray⟩ (n : Int) o (i : Int) = if (∀ b ∈ d.drop i, 48 ≤ b.toNat ∧ b.toNat ≤ 57) then some (fin neg (rl (d.drop i) n o).1 (rl (d.drop i) n o).2) else some (0, 15) := by
  intro m
  induction m with
  | zero =>
    intro k i n o hm hi hn
    rw [l0_end k neg d n o i (by omega), List.drop_of_length_le (by omega), if_pos (by simp)]
    rfl
  | succ m ih =>
    intro k i n o hm hi hn
    have hil : i < d.length := by omega
    have hdr : d.drop i = d[i] :: d.drop (i + 1) := List.drop_eq_getElem_cons hil
    have hb : bt ⟨d.toArray⟩ (i : Int) = (d[i].toNat : Int) := by rw [bt_l]; unfold List.getD; rw [List.getElem?_eq_getElem hil]; rfl
    have hw : wrap64 ((i : Int) + 1) = ((i + 1 : Nat) : Int) := by unfold wrap64; omega
    rw [show k + 2 * (m + 1) + 3 = (k + 2 * m + 3 + 1) + 1 by omega, arrearsref04_Read.l0, if_pos (by rw [ba_size]; omega), if_pos (by omega), hb, hdr]
    generalize d[i] = c at hb ⊢
    have ihn := fun n o hn => ih k (i + 1) n o (by omega) (by omega) hn
    by_cases c1 : 48 ≤ c.toNat ∧ c.toNat ≤ 57
    · rw [if_neg (by omega), decide_eq_false (show ¬ (c.toNat : Int) > 57 by omega), arrearsref04_Read.j4, if_neg (by decide), hw]
      have hall : (∀ b ∈ c :: d.drop (i + 1), 48 ≤ b.toNat ∧ b.toNat ≤ 57) ↔ (∀ b ∈ d.drop (i + 1), 48 ≤ b.toNat ∧ b.toNat ≤ 57) :=
        ⟨fun h b hb => h b (List.mem_cons_of_mem _ hb), fun h b hb => by
          rcases List.mem_cons.1 hb with rfl | hb
          · exact c1
          · exact h b hb⟩
      simp only [hall, rl]
      by_cases c2 : 922337203685477580 < n
      · rw [if_pos (by omega), if_pos c2, ihn n true hn]
      · rw [if_neg (by omega), if_neg c2]
        cases o with
        | true => rw [if_pos rfl, if_pos rfl, ihn n true hn]
        | false =>
          have hszi : ((i : Nat) : Int) < (((⟨d.toArray⟩ : ByteArray).size : Nat) : Int) := by rw [ba_size]; omega
          simp only [Bool.false_eq_true, if_false]
          rw [if_pos (show (0 : Int) ≤ ((i : Nat) : Int) by omega), if_pos hszi, hb]
          have e : IntKind.u64.wrap (IntKind.u64.wrap (10 * (n : Int)) + ((c.toNat : Int) - 48) % 256) = ((10 * n + (c.toNat - 48) : Nat) : Int) := by
            rw [w64 (10 * (n : Int)) (by omega) (by omega), w64 _ (by omega) (by omega)]
            omega
          rw [e, ihn _ false (by omega)]
    · rw [if_neg (show ¬ ∀ b ∈ c :: d.drop (i + 1), 48 ≤ b.toNat ∧ b.toNat ≤ 57 from fun h => c1 (h c (List.mem_cons_self ..)))]
      by_cases c2 : (c.toNat : Int) < 48
      · rw [if_pos c2, arrearsref04_Read.j4, if_pos rfl]
      · rw [if_neg c2, decide_eq_true (show (c.toNat : Int) > 57 by omega), arrearsref04_Read.j4, if_pos rfl]
theorem j1_eq (k : Nat) (neg : Bool) (x : List UInt8) (a p q : UInt8) (hx : x.length ≤ 100) :
    arrearsref04_Read.j1 (k + 2) neg ⟨(x ++ [a, p, q]).toArray⟩ = if x = [] ∨ a ≠ 46 ∨ (x.getD 0 0 = 48 ∧ 1 < x.length) then some (0, 15) else arrearsref04_Read.l0 k neg ⟨(x ++ [p, q]).toArray⟩ 0 false 0 := by
  have hsz : (⟨(x ++ [a, p, q]).toArray⟩ : ByteArray).size = x.length + 3 := by rw [ba_size]; simp
  have h3 : wrap64 ((((⟨(x ++ [a, p, q]).toArray⟩ : ByteArray).size : Nat) : Int) - 3) = ((x.length : Nat) : Int) := by rw [hsz]; unfold wrap64; omega
  have h2 : wrap64 ((((⟨(x ++ [a, p, q]).toArray⟩ : ByteArray).size : Nat) : Int) - 2) = ((x.length + 1 : Nat) : Int) := by rw [hsz]; unfold wrap64; omega
  have hj2 : ∀ b, arrearsref04_Read.j2 (k + 1) neg ⟨(x ++ [a, p, q]).toArray⟩ b = if b = true then some (0, 15) else arrearsref04_Read.l0 k neg ⟨(x ++ [p, q]).toArray⟩ 0 false 0 := by
    intro b
    rw [arrearsref04_Read.j2]
    cases b with
    | true => rfl
    | false =>
      have g1 : ((x.length : Nat) : Int) ≤ (((⟨(x ++ [a, p, q]).toArray⟩ : ByteArray).size : Nat) : Int) := by rw [hsz]; omega
      have g2 : ((x.length + 1 : Nat) : Int) ≤ (((⟨(x ++ [a, p, q]).toArray⟩ : ByteArray).size : Nat) : Int) := by rw [hsz]; omega
      simp only [Bool.false_eq_true, if_false]
      rw [h3, h2, if_pos (show (0 : Int) ≤ ((x.length : Nat) : Int) by omega), if_pos g1, if_pos (show (0 : Int) ≤ ((x.length + 1 : Nat) : Int) by omega), if_pos g2, Int.toNat_natCast, Int.toNat_natCast, hsz]
      rw [ex_l _ 0 x.length (by simp), ex_l _ (x.length + 1) (x.length + 3) (by simp)]
      have e1 : ((x ++ [a, p, q]).take x.length).drop 0 = x := by simp
      have e2 : ((x ++ [a, p, q]).take (x.length + 3)).drop (x.length + 1) = [p, q] := by
        rw [List.take_of_length_le (by simp), List.drop_append]
        simp
      rw [e1, e2, ba_cat, ba_size, ba_size, if_pos (by simp; omega)]
  rw [arrearsref04_Read.j1, h3]
  have hbd : bt ⟨(x ++ [a, p, q]).toArray⟩ ((x.length : Nat) : Int) = (a.toNat : Int) := by rw [bt_l]; simp
  have hb0 : x ≠ [] → bt ⟨(x ++ [a, p, q]).toArray⟩ 0 = ((x.getD 0 0).toNat : Int) := by
    intro h
    have := bt_l (x ++ [a, p, q]) 0
    rw [show ((0 : Nat) : Int) = 0 from rfl] at this
    rw [this]
    cases x with
    | nil => exact absurd rfl h
    | cons c r => rfl
  by_cases cx : x = []
  · subst cx
    rw [if_pos (by rw [hsz]; simp), hj2, if_pos rfl, if_pos (.inl rfl)]
  · have hl : 1 ≤ x.length := by
      cases x with
      | nil => exact absurd rfl cx
      | cons c r => simp
    rw [if_neg (by rw [hsz]; omega), if_pos (by omega), if_pos (by rw [hsz]; omega), hbd]
    by_cases ca : a = 46
    · subst ca
      have g3 : (0 : Int) < (((⟨(x ++ [46, p, q]).toArray⟩ : ByteArray).size : Nat) : Int) := by rw [hsz]; omega
      rw [if_pos (show (((46 : UInt8).toNat : Nat) : Int) = 46 from rfl), if_pos g3, hb0 cx]
      by_cases c0 : x.getD 0 0 = 48
      · rw [if_pos (by rw [c0]; rfl), hj2, hsz]
        by_cases c1 : 1 < x.length
        · rw [decide_eq_true (show (((x.length + 3 : Nat)) : Int) > 4 by omega), if_pos rfl, if_pos (.inr (.inr ⟨c0, c1⟩))]
        · rw [decide_eq_false (show ¬ (((x.length + 3 : Nat)) : Int) > 4 by omega), if_neg (by decide), if_neg (by rintro (h | h | h); exact cx h; exact h rfl; exact c1 h.2)]
      · rw [if_neg (fun e => c0 (UInt8.toNat_inj.mp (by show (x.getD 0 0).toNat = 48; omega))), hj2, if_neg (by decide), if_neg (by rintro (h | h | h); exact cx h; exact h rfl; exact c0 h.1)]
    · rw [if_neg (fun e => ca (UInt8.toNat_inj.mp (by show a.toNat = 46; omega))), hj2, if_pos rfl, if_pos (.inr (.inl ca))]
theorem j1_short (k : Nat) (neg : Bool) (t : List UInt8) (ht : t.length < 3) : arrearsref04_Read.j1 (k + 2) neg ⟨t.toArray⟩ = some (0, 15) := by
  rw [arrearsref04_Read.j1, if_pos (by rw [ba_size]; omega), arrearsref04_Read.j2, if_pos rfl]
theorem last3 (t : List UInt8) (h : 3 ≤ t.length) : ∃ x a p q, t = x ++ [a, p, q] := by
  have h3 : (t.drop (t.length - 3)).length = 3 := by simp; omega
  match hd : t.drop (t.length - 3), h3 with
  | [a, p, q], _ => exact ⟨t.take (t.length - 3), a, p, q, by rw [← hd, List.take_append_drop]⟩
/-- The sign, and what is behind it. -/
theorem ref_split (k : Nat) (l : List UInt8) (hl : l.length ≤ 100) : ∃ (neg : Bool) (t : List UInt8), l = (if neg then [45] else []) ++ t ∧ (neg = false → t.head? ≠ some 45) ∧ arrearsref04_Read.f (k + 1) ⟨l.toArray⟩ = arrearsref04_Read.j1 k neg ⟨t.toArray⟩ := by
  unfold arrearsref04_Read.f
  cases l with
  | nil =>
    refine ⟨false, [], rfl, by simp, ?_⟩
    rw [if_neg (by rw [ba_size]; simp), arrearsref04_Read.j0, if_neg (by decide)]
  | cons c r =>
    have hb := bt_l (c :: r) 0
    rw [show ((0 : Nat) : Int) = 0 from rfl] at hb
    have hb' : bt ⟨(c :: r).toArray⟩ 0 = (c.toNat : Int) := hb
    have g1 : (((⟨(c :: r).toArray⟩ : ByteArray).size : Nat) : Int) > 0 := by rw [ba_size, List.length_cons]; omega
    rw [if_pos g1, if_pos (show (0 : Int) < (((⟨(c :: r).toArray⟩ : ByteArray).size : Nat) : Int) from g1), hb', arrearsref04_Read.j0]
    by_cases e : c = 45
    · subst e
      refine ⟨true, r, rfl, by simp, ?_⟩
      rw [show ((((45 : UInt8).toNat : Nat) : Int) == 45) = true from rfl, if_pos rfl, if_pos (by rw [ba_size]; simp; omega), ba_size, ex_l _ 1 _ (Nat.le_refl _)]
      rw [List.take_of_length_le (Nat.le_refl _)]
      rfl
    · refine ⟨false, c :: r, rfl, fun _ h => e (by simpa using h), ?_⟩
      have hne : (((c.toNat : Nat) : Int) == 45) = false := by
        rw [beq_eq_false_iff_ne]
        exact fun h => e (UInt8.toNat_inj.mp (by show c.toNat = 45; omega))
      rw [hne, if_neg (by decide)]
theorem rl_spec : ∀ (l : List UInt8) (n : Nat) (o : Bool), (∀ b ∈ l, 48 ≤ b.toNat ∧ b.toNat ≤ 57) → ((rl l n o).2 = false → o = false ∧ (rl l n o).1 = valF n l) ∧ ((rl l n o).2 = true → o = true ∨ 9223372036854775810 ≤ valF n l)
  | [], n, o, _ => ⟨fun h => ⟨h, rfl⟩, fun h => .inl h⟩
  | c :: r, n, o, h => by
    have hc := h c (List.mem_cons_self ..)
    have hr : ∀ b ∈ r, 48 ≤ b.toNat ∧ b.toNat ≤ 57 := fun b hb => h b (List.mem_cons_of_mem _ hb)
    have hv : valF n (c :: r) = valF (n * 10 + (c.toNat - 48)) r := rfl
    have hg := valF_ge r (n * 10 + (c.toNat - 48))
    rw [rl, hv]
    by_cases c1 : 922337203685477580 < n
    · rw [if_pos c1]
      obtain ⟨i1, i2⟩ := rl_spec r n true hr
      exact ⟨fun e => absurd (i1 e).1 (by decide), fun _ => .inr (by omega)⟩
    · rw [if_neg c1]
      cases o with
      | true =>
        rw [if_pos rfl]
        obtain ⟨i1, i2⟩ := rl_spec r n true hr
        exact ⟨fun e => absurd (i1 e).1 (by decide), fun _ => .inl rfl⟩
      | false =>
        rw [if_neg (by decide)]
        obtain ⟨i1, i2⟩ := rl_spec r (10 * n + (c.toNat - 48)) false hr
        rw [show n * 10 + (c.toNat - 48) = 10 * n + (c.toNat - 48) by omega]
        exact ⟨fun e => ⟨rfl, (i1 e).2⟩, fun e => i2 e⟩
theorem ref_good {l : List UInt8} {neg : Bool} {x : List UInt8} {p q : UInt8} (h : Good l neg x p q) (hl : l.length ≤ 40) :
    arrearsref04_Read.f 300 ⟨l.toArray⟩ = some (if valF 0 (x ++ [p, q]) ≤ (if neg then 9223372036854775808 else 9223372036854775807) then (if neg = true ∧ valF 0 (x ++ [p, q]) = 0 then (0, 15) else ((if neg then -(valF 0 (x ++ [p, q]) : Int) else (valF 0 (x ++ [p, q]) : Int)), 0)) else (0, 12)) := by
  obtain ⟨e, hne, hr, hh⟩ := h
  obtain ⟨neg', t, e2, hneg, hf⟩ := ref_split 299 l (by omega)
  have hx : x.length ≤ 40 := by rw [e] at hl; simp at hl; omega
  have hnt : neg' = neg ∧ t = x ++ [46, p, q] := by
    rw [e, List.append_assoc] at e2
    cases neg with
    | true =>
      cases neg' with
      | true => exact ⟨rfl, by simpa using e2.symm⟩
      | false =>
        exfalso
        have := hneg rfl
        rw [show t = 45 :: (x ++ [46, p, q]) by simpa using e2.symm] at this
        simp at this
    | false =>
      cases neg' with
      | false => exact ⟨rfl, by simpa using e2.symm⟩
      | true =>
        exfalso
        cases x with
        | nil => exact hne rfl
        | cons c r =>
          have h1 : c = 45 := by simp at e2; exact e2.1
          have := hr c (by simp)
          rw [h1] at this
          exact absurd this (by decide)
  obtain ⟨rfl, rfl⟩ := hnt
  have hlen : (x ++ [p, q]).length ≤ 42 := by simp; omega
  have hl0 := l0_eq neg' (x ++ [p, q]) (by omega) (x ++ [p, q]).length (297 - 2 * (x ++ [p, q]).length - 3) 0 0 false (by omega) (by omega) (by omega)
  rw [show 297 - 2 * (x ++ [p, q]).length - 3 + 2 * (x ++ [p, q]).length + 3 = 297 by omega, List.drop_zero, if_pos hr] at hl0
  rw [hf, j1_eq 297 neg' x 46 p q (by omega), if_neg (by rintro (a | a | a); exact hne a; exact a rfl; exact hh a.2 a.1)]
  rw [show ((0 : Nat) : Int) = 0 from rfl] at hl0
  rw [hl0]
  obtain ⟨s1, s2⟩ := rl_spec (x ++ [p, q]) 0 false hr
  generalize valF 0 (x ++ [p, q]) = N at s1 s2 ⊢
  generalize rl (x ++ [p, q]) 0 false = R at s1 s2 ⊢
  obtain ⟨n, o⟩ := R
  simp only at s1 s2 ⊢
  unfold fin
  cases o with
  | true =>
    have hN : 9223372036854775810 ≤ N := by rcases s2 rfl with h | h; exact absurd h (by decide); exact h
    rw [if_pos (.inl rfl), if_neg (by cases neg' <;> simp <;> omega)]
  | false =>
    obtain ⟨_, rfl⟩ := s1 rfl
    cases neg' with
    | true =>
      by_cases c : n ≤ 9223372036854775808
      · have c2 : ¬ 9223372036854775808 < n := by omega
        simp [c, c2]
      · have c2 : 9223372036854775808 < n := by omega
        simp [c, c2]
    | false =>
      by_cases c : n ≤ 9223372036854775807
      · have c2 : ¬ 9223372036854775807 < n := by omega
        have c3 : ¬ 9223372036854775808 < n := by omega
        simp [c, c2, c3]
      · have c2 : 9223372036854775807 < n := by omega
        simp [c, c2]
theorem ref_bad {l : List UInt8} (hl : l.length ≤ 40) (h : ∀ neg x p q, ¬ Good l neg x p q) : arrearsref04_Read.f 300 ⟨l.toArray⟩ = some (0, 15) := by
  obtain ⟨neg, t, e2, hneg, hf⟩ := ref_split 299 l (by omega)
  have htl : t.length ≤ 40 := by rw [e2] at hl; simp at hl; omega
  rw [hf]
  by_cases c : t.length < 3
  · exact j1_short 297 neg t c
  · obtain ⟨x, a, p, q, rfl⟩ := last3 t (by omega)
    have hx : x.length ≤ 40 := by simp at htl; omega
    rw [j1_eq 297 neg x a p q (by omega)]
    by_cases c1 : x = [] ∨ a ≠ 46 ∨ (x.getD 0 0 = 48 ∧ 1 < x.length)
    · rw [if_pos c1]
    · rw [if_neg c1]
      have ha : a = 46 := by
        by_cases h1 : a = 46
        · exact h1
        · exact absurd (.inr (.inl h1)) c1
      subst ha
      have hlen : (x ++ [p, q]).length ≤ 42 := by simp; omega
      have hl0 := l0_eq neg (x ++ [p, q]) (by omega) (x ++ [p, q]).length (297 - 2 * (x ++ [p, q]).length - 3) 0 0 false (by omega) (by omega) (by omega)
      rw [show 297 - 2 * (x ++ [p, q]).length - 3 + 2 * (x ++ [p, q]).length + 3 = 297 by omega, List.drop_zero] at hl0
      rw [show ((0 : Nat) : Int) = 0 from rfl] at hl0
      rw [hl0, if_neg]
      intro hr
      exact h neg x p q ⟨by rw [e2, List.append_assoc], fun k => c1 (.inl k), hr, fun k1 k2 => c1 (.inr (.inr ⟨k2, k1⟩))⟩

theorem text40 (s : ByteArray) (hs : s.size ≤ 140737488351232) : arrearsref01_Text.f s 40 = some (s.extract 0 (min s.size 40)) := by
  unfold arrearsref01_Text.f
  have hm : mn (s.size : Int) 40 = ((min s.size 40 : Nat) : Int) := by unfold mn; split <;> omega
  rw [hm, if_pos (by omega), if_pos (by omega), Int.toNat_natCast]
theorem awake_eq : arrearslaw04_awake.f = some true := by
  unfold arrearslaw04_awake.f
  have e : (⟨#[45, 48, 46, 48, 53]⟩ : ByteArray) = ⟨(mtext (decide ((-5 : Int) < 0)) (-5 : Int).natAbs).toArray⟩ := by
    apply ByteArray.ext
    simp [mtext, decDigits_one]
  have hg : Good [45, 48, 46, 48, 53] true [48] 48 53 := ⟨rfl, by simp, by decide, by simp⟩
  have hr := coin_good hg (by decide)
  have hv : valF 0 ([48] ++ [48, 53]) = 5 := by decide
  rw [hv] at hr
  rw [show (⟨#[45, 48, 46, 48, 53]⟩ : ByteArray) = ⟨([45, 48, 46, 48, 53] : List UInt8).toArray⟩ from rfl, hr, text_eq (-5) (by omega), ← e]
  simp only [Option.bind_some, if_true, true_and]
  rw [if_pos (by omega), if_neg (by omega)]
  simp only [Option.bind_some]
  rw [if_pos (by decide +kernel)]
  rfl
theorem both (l : List UInt8) (hl : l.length ≤ 40) : (∃ v, coin_Read.f ⟨l.toArray⟩ = some (v, none) ∧ coin_Coin_Text.f v = some ⟨l.toArray⟩ ∧ arrearsref04_Read.f 300 ⟨l.toArray⟩ = some (v, 0)) ∨ (∃ c, coin_Read.f ⟨l.toArray⟩ = some (0, some c) ∧ arrearsref04_Read.f 300 ⟨l.toArray⟩ = some (0, c)) := by
  by_cases h : ∃ neg x p q, Good l neg x p q
  · obtain ⟨neg, x, p, q, hg⟩ := h
    have h1 := coin_good hg hl
    have h2 := ref_good hg hl
    have ht := good_text hg
    generalize valF 0 (x ++ [p, q]) = N at h1 h2 ht
    by_cases c : N ≤ (if neg then 9223372036854775808 else 9223372036854775807)
    · rw [if_pos c] at h1 h2
      by_cases z : neg = true ∧ N = 0
      · rw [if_pos z] at h1 h2
        exact .inr ⟨15, h1, h2⟩
      · rw [if_neg z] at h1 h2
        refine .inl ⟨_, h1, ?_, h2⟩
        cases neg with
        | true =>
          have c' : N ≤ 9223372036854775808 := by simpa using c
          have z' : N ≠ 0 := fun e => z ⟨rfl, e⟩
          simp only [if_true]
          rw [text_eq _ (by omega), Int.natAbs_neg, Int.natAbs_natCast, decide_eq_true (show -((N : Nat) : Int) < 0 by omega), ht]
        | false =>
          have c' : N ≤ 9223372036854775807 := by simpa using c
          simp only [Bool.false_eq_true, if_false]
          rw [text_eq _ (by omega), Int.natAbs_natCast, decide_eq_false (show ¬ ((N : Nat) : Int) < 0 by omega), ht]
    · rw [if_neg c] at h1 h2
      exact .inr ⟨12, h1, h2⟩
  · have h' : ∀ neg x p q, ¬ Good l neg x p q := fun neg x p q g => h ⟨neg, x, p, q, g⟩
    exact .inr ⟨15, coin_bad hl h', ref_bad hl h'⟩
theorem pure_proved : arrearslaw04_CoinReads.Pure := by
  intro a0 h0
  refine ⟨300, ?_⟩
  unfold arrearslaw04_CoinReads.f
  rw [awake_eq]
  simp only [Option.bind_some, if_true]
  rw [text40 a0 h0]
  simp only [Option.bind_some]
  have hs : (a0.extract 0 (min a0.size 40)).size ≤ 40 := by rw [ByteArray.size_extract]; omega
  generalize a0.extract 0 (min a0.size 40) = s at hs
  obtain ⟨l, rfl⟩ : ∃ l : List UInt8, s = ⟨l.toArray⟩ := ⟨s.data.toList, by apply ByteArray.ext; simp⟩
  rw [ba_size] at hs
  rcases both l hs with ⟨v, h1, h2, h3⟩ | ⟨c, h1, h3⟩
  · rw [h1, h3]
    simp only [Option.bind_some, api_Code.f, Option.getD_none, if_true, Option.isNone_none]
    rw [h2]
    simp
  · rw [h1, h3]
    simp only [Option.bind_some, api_Code.f, Option.getD_some, if_true, Option.isNone_some, Bool.false_eq_true, if_false]

end Go.Proofs.YtkjofbdlholmbaaDoor.PCoinReads
