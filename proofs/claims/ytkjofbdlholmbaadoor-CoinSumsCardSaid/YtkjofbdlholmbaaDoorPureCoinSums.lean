/- The pure statement behind the law CoinSums, over numbers and lists alone. Conditions: those that the printed statement names (each number is of its kind). -/
import Derived.Test.YtkjofbdlholmbaaDoorDCoinSums
set_option linter.unusedVariables false
set_option linter.unusedSimpArgs false
namespace Go.Proofs.YtkjofbdlholmbaaDoor.PCoinSums
open Go.RowKit Go.Proofs.YtkjofbdlholmbaaDoorW.PrintWords Go.Proofs.YtkjofbdlholmbaaDoorW.PrintLast Go.Proofs.YtkjofbdlholmbaaDoorW.PrintMore

open Go.Lib
def valF (acc : Nat) : List UInt8 → Nat
  | [] => acc
  | c :: r => valF (acc * 10 + (c.toNat - 48)) r
theorem valF_ge : ∀ (l : List UInt8) (acc : Nat), acc ≤ valF acc l
  | [], acc => Nat.le_refl _
  | c :: r, acc => by
    have := valF_ge r (acc * 10 + (c.toNat - 48))
    unfold valF
    omega
theorem valF_append : ∀ (l r : List UInt8) (acc : Nat), valF acc (l ++ r) = valF (valF acc l) r
  | [], r, acc => rfl
  | c :: l, r, acc => valF_append l r _
theorem parse_val (M : Nat) (hM : M ≤ 18446744073709551615) : ∀ (l : List UInt8) (acc : Nat), (∀ b ∈ l, 48 ≤ b.toNat ∧ b.toNat ≤ 57) → valF acc l ≤ M → parseUintM M acc l = .ok (valF acc l)
  | [], acc, _, _ => rfl
  | c :: r, acc, hb, h => by
    have hc := hb c (List.mem_cons_self ..)
    have hg := valF_ge r (acc * 10 + (c.toNat - 48))
    have h' : valF (acc * 10 + (c.toNat - 48)) r ≤ M := h
    unfold parseUintM
    rw [if_pos hc, if_neg (by omega), if_neg (by omega)]
    exact parse_val M hM r _ (fun b hm => hb b (List.mem_cons_of_mem _ hm)) h'
theorem ofNat_toNat (d : Nat) (h : d < 10) : (UInt8.ofNat (48 + d)).toNat = 48 + d := by
  simp [UInt8.toNat_ofNat']; omega
theorem dd_range (u : Nat) : ∀ b ∈ decDigits u, 48 ≤ b.toNat ∧ b.toNat ≤ 57 := by
  induction u using Nat.strongRecOn with
  | _ u ih =>
    intro b hb
    rw [decDigits] at hb
    split at hb
    · rename_i h
      rw [List.mem_singleton.1 hb, ofNat_toNat u h]; omega
    · rename_i h
      rcases List.mem_append.1 hb with hb | hb
      · exact ih (u / 10) (by omega) b hb
      · rw [List.mem_singleton.1 hb, ofNat_toNat (u % 10) (by omega)]; omega
theorem dd_val (u : Nat) : valF 0 (decDigits u) = u := by
  induction u using Nat.strongRecOn with
  | _ u ih =>
    rw [decDigits]
    split
    · rename_i h
      show 0 * 10 + ((UInt8.ofNat (48 + u)).toNat - 48) = u
      rw [ofNat_toNat u h]; omega
    · rename_i h
      rw [valF_append, ih (u / 10) (by omega)]
      show (u / 10) * 10 + ((UInt8.ofNat (48 + u % 10)).toNat - 48) = u
      rw [ofNat_toNat (u % 10) (by omega)]; omega
theorem dd_ne (u : Nat) : decDigits u ≠ [] := by
  rw [decDigits]; split <;> simp
theorem dd_head (u : Nat) (hu : 1 ≤ u) : (decDigits u).getD 0 0 ≠ 48 := by
  induction u using Nat.strongRecOn with
  | _ u ih =>
    rw [decDigits]
    split
    · rename_i h
      intro e
      have e' : UInt8.ofNat (48 + u) = 48 := by simpa using e
      have := congrArg UInt8.toNat e'
      rw [ofNat_toNat u h] at this
      have h48 : (48 : UInt8).toNat = 48 := rfl
      omega
    · rename_i h
      have h1 := ih (u / 10) (by omega) (by omega)
      have h2 := dd_ne (u / 10)
      cases hd : decDigits (u / 10) with
      | nil => exact absurd hd h2
      | cons x xs => rw [hd] at h1; simpa using h1
theorem dd_head' (u : Nat) (h : 1 < (decDigits u).length) : (decDigits u).getD 0 0 ≠ 48 := by
  refine dd_head u ?_
  rcases Nat.eq_zero_or_pos u with rfl | h'
  · rw [decDigits_one (by omega)] at h; simp at h
  · exact h'
theorem index_dot : ∀ (l t : List UInt8), (∀ b ∈ l, b ≠ 46) → index (l ++ 46 :: t) [46] = l.length
  | [], t, _ => by simp [index]
  | c :: l, t, h => by
    have ih := index_dot l t (fun b hb => h b (List.mem_cons_of_mem _ hb))
    have hc := h c (List.mem_cons_self ..)
    have hp : ([46] : List UInt8).isPrefixOf (c :: (l ++ 46 :: t)) = false := by simp [List.isPrefixOf]; exact fun e => hc e.symm
    show index (c :: (l ++ 46 :: t)) [46] = _
    rw [index, hp, ih]
    simp
theorem cut_dot (l t : List UInt8) (h : ∀ b ∈ l, b ≠ 46) : cut (l ++ 46 :: t) [46] = (l, t, true) := by
  unfold cut
  rw [index_dot l t h, if_pos (by omega)]
  simp
theorem trim_minus (l : List UInt8) : trimPrefix (45 :: l) [45] = l := by simp [trimPrefix, hasPrefix, List.isPrefixOf]
theorem trim_plain (l : List UInt8) (h : l.head? ≠ some 45) : trimPrefix l [45] = l := by
  unfold trimPrefix hasPrefix
  cases l with
  | nil => simp [List.isPrefixOf]
  | cons x xs =>
    have : x ≠ 45 := fun e => h (by rw [e]; rfl)
    rw [if_neg]
    simp [List.isPrefixOf]; exact fun e => this e.symm

theorem dd_len (u : Nat) : (decDigits u).length ≤ u + 1 := by
  induction u using Nat.strongRecOn with
  | _ u ih =>
    rw [decDigits]
    split
    · simp
    · rename_i h
      have := ih (u / 10) (by omega)
      simp only [List.length_append, List.length_cons, List.length_nil]
      omega
def mtext (neg : Bool) (M : Nat) : List UInt8 := ((if neg then [45] else []) ++ decDigits (M / 100)) ++ [46, UInt8.ofNat (48 + M % 100 / 10), UInt8.ofNat (48 + M % 10)]
theorem w64 (x : Int) (h0 : 0 ≤ x) (h1 : x ≤ 18446744073709551615) : IntKind.u64.wrap x = x := by
  simp only [IntKind.wrap, IntKind.bits, IntKind.signed]
  simp
  omega
theorem wneg (a : Int) (h0 : -9223372036854775808 ≤ a) (h1 : a < 0) : IntKind.u64.wrap (-(IntKind.u64.wrap a)) = (a.natAbs : Int) := by
  simp only [IntKind.wrap, IntKind.bits, IntKind.signed]
  simp
  omega
theorem fu_eq (u : Nat) (h : u ≤ 18446744073709551615) : strconv_FormatUint.f (u : Int) 10 = some ⟨(decDigits u).toArray⟩ := by
  unfold strconv_FormatUint.f
  rw [if_pos ⟨⟨by omega, by omega⟩, rfl⟩]
  simp
theorem nums2 (x y : Nat) (hx : x < 10) (hy : y < 10) : strOfNums [((48 + x : Nat) : Int) % 256, ((48 + y : Nat) : Int) % 256] = ⟨#[UInt8.ofNat (48 + x), UInt8.ofNat (48 + y)]⟩ := by
  have h : ∀ (p : Fin 10) (q : Fin 10), strOfNums [((48 + p.val : Nat) : Int) % 256, ((48 + q.val : Nat) : Int) % 256] = ⟨#[UInt8.ofNat (48 + p.val), UInt8.ofNat (48 + q.val)]⟩ := by decide +kernel
  exact h ⟨x, hx⟩ ⟨y, hy⟩
theorem ba_cat (l r : List UInt8) : (⟨l.toArray⟩ : ByteArray) ++ ⟨r.toArray⟩ = ⟨(l ++ r).toArray⟩ := by
  apply ByteArray.ext
  simp
theorem ba_size (l : List UInt8) : (⟨l.toArray⟩ : ByteArray).size = l.length := by simp [ByteArray.size]
theorem tail_words (M : Nat) (hM : M ≤ 9223372036854775808) :
    (IntKind.u64.wrap (Int.tdiv (M : Int) 100) = ((M / 100 : Nat) : Int)) ∧ (IntKind.u64.wrap (48 + (IntKind.u64.wrap (Int.tdiv (Int.tmod (M : Int) 100) 10))) % 256 = ((48 + M % 100 / 10 : Nat) : Int) % 256) ∧ (IntKind.u64.wrap (48 + (Int.tmod (Int.tmod (M : Int) 100) 10)) % 256 = ((48 + M % 10 : Nat) : Int) % 256) := by
  have e1 : Int.tdiv (M : Int) 100 = ((M / 100 : Nat) : Int) := rfl
  have e2 : Int.tdiv (Int.tmod (M : Int) 100) 10 = ((M % 100 / 10 : Nat) : Int) := rfl
  have e3 : Int.tmod (Int.tmod (M : Int) 100) 10 = ((M % 100 % 10 : Nat) : Int) := rfl
  rw [e1, e2, e3, w64 _ (by omega) (by omega), w64 ((M % 100 / 10 : Nat) : Int) (by omega) (by omega), w64 _ (by omega) (by omega), w64 _ (by omega) (by omega)]
  refine ⟨rfl, by omega, by omega⟩
theorem text_eq (a : Int) (h : -9223372036854775808 ≤ a ∧ a ≤ 9223372036854775807) : coin_Coin_Text.f a = some ⟨(mtext (decide (a < 0)) a.natAbs).toArray⟩ := by
  unfold coin_Coin_Text.f
  obtain ⟨M, hM⟩ : ∃ M, M = a.natAbs := ⟨_, rfl⟩
  obtain ⟨t1, t2, t3⟩ := tail_words M (by omega)
  have hl := dd_len (M / 100)
  by_cases c : a < 0
  · rw [if_pos c, wneg a h.1 c, ← hM, t1, t2, t3, fu_eq (M / 100) (by omega)]
    simp only [Option.bind_some]
    rw [nums2 _ _ (by omega) (by omega)]
    rw [show (⟨#[45]⟩ : ByteArray) = ⟨([45] : List UInt8).toArray⟩ from rfl, show (⟨#[46]⟩ : ByteArray) = ⟨([46] : List UInt8).toArray⟩ from rfl]
    rw [show (⟨#[UInt8.ofNat (48 + M % 100 / 10), UInt8.ofNat (48 + M % 10)]⟩ : ByteArray) = ⟨([UInt8.ofNat (48 + M % 100 / 10), UInt8.ofNat (48 + M % 10)] : List UInt8).toArray⟩ from rfl]
    simp only [ba_cat, ba_size]
    rw [if_pos (by omega), if_pos (by simp; omega), if_pos (by simp; omega)]
    simp [mtext, c]
  · have hw : IntKind.u64.wrap a = (M : Int) := by rw [w64 a (by omega) (by omega)]; omega
    rw [if_neg c, hw, t1, t2, t3, fu_eq (M / 100) (by omega)]
    simp only [Option.bind_some]
    rw [nums2 _ _ (by omega) (by omega)]
    rw [show (⟨#[]⟩ : ByteArray) = ⟨([] : List UInt8).toArray⟩ from rfl, show (⟨#[46]⟩ : ByteArray) = ⟨([46] : List UInt8).toArray⟩ from rfl]
    rw [show (⟨#[UInt8.ofNat (48 + M % 100 / 10), UInt8.ofNat (48 + M % 10)]⟩ : ByteArray) = ⟨([UInt8.ofNat (48 + M % 100 / 10), UInt8.ofNat (48 + M % 10)] : List UInt8).toArray⟩ from rfl]
    simp only [ba_cat, ba_size]
    rw [if_pos (by omega), if_pos (by simp; omega), if_pos (by simp; omega), ← hM]
    simp [mtext, c]

theorem ndig_le (u : Nat) (h : u < 10 ^ 24) : nDigits u ≤ 25 := by
  rw [← decDigits_length]
  have key : ∀ (n u : Nat), u < 10 ^ (n + 1) → (decDigits u).length ≤ n + 1 := by
    intro n
    induction n with
    | zero => intro u h; rw [decDigits_one (by omega)]; simp
    | succ n ih =>
      intro u h
      rw [decDigits]
      split
      · simp
      · have := ih (u / 10) (by rw [Nat.pow_succ] at h; omega)
        simp only [List.length_append, List.length_cons, List.length_nil]
        omega
  exact Nat.le_trans (key 23 u h) (by omega)

def twoT (M : Nat) : List UInt8 := [UInt8.ofNat (48 + M % 100 / 10), UInt8.ofNat (48 + M % 10)]
theorem twoT_range (M : Nat) : ∀ b ∈ twoT M, 48 ≤ b.toNat ∧ b.toNat ≤ 57 := by
  intro b hb
  simp only [twoT, List.mem_cons, List.not_mem_nil, or_false] at hb
  rcases hb with rfl | rfl
  · rw [ofNat_toNat _ (by omega)]; omega
  · rw [ofNat_toNat _ (by omega)]; omega
theorem digs_range (M : Nat) : ∀ b ∈ decDigits (M / 100) ++ twoT M, 48 ≤ b.toNat ∧ b.toNat ≤ 57 := by
  intro b hb
  rcases List.mem_append.1 hb with hb | hb
  · exact dd_range _ b hb
  · exact twoT_range _ b hb
theorem digs_val (M : Nat) : valF 0 (decDigits (M / 100) ++ twoT M) = M := by
  rw [valF_append, dd_val]
  show ((M / 100) * 10 + ((UInt8.ofNat (48 + M % 100 / 10)).toNat - 48)) * 10 + ((UInt8.ofNat (48 + M % 10)).toNat - 48) = M
  rw [ofNat_toNat _ (by omega), ofNat_toNat _ (by omega)]
  omega
theorem uint_digs (M : Nat) (h : M ≤ 18446744073709551615) : parseUintB 64 (decDigits (M / 100) ++ twoT M) = .ok M := by
  unfold parseUintB
  rw [if_neg (by simp [twoT]), parse_val _ (by decide) _ 0 (digs_range M) (by rw [digs_val]; exact h), digs_val]
theorem int_minus (M : Nat) (h : M ≤ 9223372036854775808) : parseIntB 64 (45 :: (decDigits (M / 100) ++ twoT M)) = .ok (-(M : Int)) := by
  rw [parseIntB_minus, uint_digs M (by omega)]
  unfold signedC
  simp
  omega
theorem int_plain (M : Nat) (h : M ≤ 9223372036854775807) : parseIntB 64 (decDigits (M / 100) ++ twoT M) = .ok (M : Int) := by
  have hu := uint_digs M (by omega)
  have hr := digs_range M
  have hne : decDigits (M / 100) ++ twoT M ≠ [] := by simp [twoT]
  generalize decDigits (M / 100) ++ twoT M = l at *
  cases l with
  | nil => exact absurd rfl hne
  | cons c r =>
    have hc := hr c (List.mem_cons_self ..)
    rw [parseIntB_plain 64 c r (by omega) (by omega), hu]
    unfold signlessC
    simp
    omega
theorem dd_head45 (u : Nat) : (decDigits u).head? ≠ some 45 := by
  have hr := dd_range u
  cases h : decDigits u with
  | nil => simp
  | cons c r =>
    intro e
    have e' : c = 45 := by simpa using e
    have := hr c (by rw [h]; exact List.mem_cons_self ..)
    rw [e'] at this
    exact absurd this (by decide)
theorem num_eq (neg : Bool) (M : Nat) (h : M ≤ (if neg then 9223372036854775808 else 9223372036854775807)) :
    coin_Read.num ⟨(mtext neg M).toArray⟩ = some (if neg then -(M : Int) else M) := by
  have hM : M ≤ 9223372036854775808 := by cases neg <;> simp at h <;> omega
  have hlen : (decDigits (M / 100)).length ≤ 25 := by rw [decDigits_length]; exact ndig_le (M / 100) (by omega)
  have hdot : ∀ b ∈ ((if neg then [45] else []) ++ decDigits (M / 100) : List UInt8), b ≠ 46 := by
    intro b hb e
    rcases List.mem_append.1 hb with hb | hb
    · cases neg with
      | true => rw [List.mem_singleton.1 hb] at e; exact absurd e (by decide)
      | false => exact absurd hb (by simp)
    · have := dd_range _ b hb
      rw [e] at this
      exact absurd this (by decide)
  have hcut : cut (⟨(mtext neg M).toArray⟩ : ByteArray).data.toList [46] = ((if neg then [45] else []) ++ decDigits (M / 100), twoT M, true) := cut_dot _ (twoT M) hdot
  have htrim : trimPrefix ((if neg then [45] else []) ++ decDigits (M / 100)) [45] = decDigits (M / 100) := by
    cases neg with
    | true => exact trim_minus _
    | false => exact trim_plain _ (dd_head45 _)
  have hsize : (⟨(mtext neg M).toArray⟩ : ByteArray).size ≤ 40 := by
    rw [ba_size]; unfold mtext; cases neg <;> simp <;> omega
  have hsl : (((if neg then [45] else []) ++ decDigits (M / 100)) : List UInt8).length ≤ 26 := by cases neg <;> simp <;> omega
  unfold coin_Read.num
  rw [hcut]
  simp only
  rw [htrim, if_pos ⟨⟨by omega, by omega, trivial, rfl, by omega⟩, dd_ne _, dd_head' _, digs_range M⟩]
  cases neg with
  | true =>
    show (match parseIntB 64 (45 :: (decDigits (M / 100) ++ twoT M)) with | .ok v => some v | _ => none) = _
    rw [int_minus M hM]; rfl
  | false =>
    show (match parseIntB 64 (decDigits (M / 100) ++ twoT M) with | .ok v => some v | _ => none) = _
    rw [int_plain M (by simpa using h)]; rfl
theorem read_eq (a : Int) (h : -9223372036854775808 ≤ a ∧ a ≤ 9223372036854775807) : coin_Read.f ⟨(mtext (decide (a < 0)) a.natAbs).toArray⟩ = some (a, none) := by
  unfold coin_Read.f
  rw [num_eq _ _ (by by_cases c : a < 0 <;> simp [c] <;> omega)]
  simp only [Option.bind_some]
  have e : (if decide (a < 0) = true then -(a.natAbs : Int) else (a.natAbs : Int)) = a := by by_cases c : a < 0 <;> simp [c] <;> omega
  rw [e, text_eq a h, if_pos rfl]
theorem awake_eq : arrearslaw04_awake.f = some true := by
  unfold arrearslaw04_awake.f
  have e : (⟨#[45, 48, 46, 48, 53]⟩ : ByteArray) = ⟨(mtext (decide ((-5 : Int) < 0)) (-5 : Int).natAbs).toArray⟩ := by
    apply ByteArray.ext
    simp [mtext, decDigits_one]
  rw [e, read_eq (-5) (by omega), text_eq (-5) (by omega), ← e]
  simp only [Option.bind_some]
  rw [if_pos (by decide +kernel)]
  rfl


theorem add_none (a b : Int) (ha : -9223372036854775808 ≤ a ∧ a ≤ 9223372036854775807) (hb : -9223372036854775808 ≤ b ∧ b ≤ 9223372036854775807) :
    coin_Coin_Add.f a b = if -9223372036854775808 ≤ a + b ∧ a + b ≤ 9223372036854775807 then some (a + b, none) else some (0, some 12) := by
  unfold coin_Coin_Add.f
  have hw : wrap64 (a + b) = if a + b < -9223372036854775808 then a + b + 18446744073709551616 else if 9223372036854775807 < a + b then a + b - 18446744073709551616 else a + b := by
    unfold wrap64; split <;> (try split) <;> omega
  rw [hw]
  repeat' split
  all_goals first | rfl | (exfalso; omega)
theorem refadd_eq (a b : Int) (ha : -9223372036854775808 ≤ a ∧ a ≤ 9223372036854775807) (hb : -9223372036854775808 ≤ b ∧ b ≤ 9223372036854775807) :
    arrearsref04_Add.f a b = if -9223372036854775808 ≤ a + b ∧ a + b ≤ 9223372036854775807 then some (a + b, true) else some (0, false) := by
  unfold arrearsref04_Add.f
  by_cases h : -9223372036854775808 ≤ a + b ∧ a + b ≤ 9223372036854775807
  · rw [if_pos h, show wrap64 (a + b) = a + b by unfold wrap64; omega]
    by_cases p : b > 0
    · rw [if_pos p, show wrap64 (9223372036854775807 - b) = 9223372036854775807 - b by unfold wrap64; omega, if_neg (by omega), if_neg (by omega)]
    · rw [if_neg p]
      by_cases q : b < 0
      · rw [if_pos q, show wrap64 (-9223372036854775808 - b) = -9223372036854775808 - b by unfold wrap64; omega, if_neg (by omega)]
      · rw [if_neg q]
  · rw [if_neg h]
    by_cases p : b > 0
    · rw [if_pos p, show wrap64 (9223372036854775807 - b) = 9223372036854775807 - b by unfold wrap64; omega, if_pos (by omega)]
    · rw [if_neg p, if_pos (by omega), show wrap64 (-9223372036854775808 - b) = -9223372036854775808 - b by unfold wrap64; omega, if_pos (by omega)]

def inI (x : Int) : Prop := -9223372036854775808 ≤ x ∧ x ≤ 9223372036854775807
instance (x : Int) : Decidable (inI x) := by unfold inI; infer_instance
def addAll : Int → List Int → Option Int
  | s, [] => some s
  | s, x :: r => if inI (s + x) then addAll (s + x) r else none
theorem drop_rd (L : List Int) (i : Nat) (hi : i < L.length) : L.drop i = rd L (i : Int) :: L.drop (i + 1) := by
  rw [List.drop_eq_getElem_cons hi]
  simp [rd, List.getD, List.getElem?_eq_getElem hi]
theorem rd_in (L : List Int) (hL : ∀ x ∈ L, inI x) (i : Nat) (hi : i < L.length) : inI (rd L (i : Int)) := by
  have e : rd L (i : Int) = L[i] := by simp [rd, List.getD, List.getElem?_eq_getElem hi]
  rw [e]; exact hL _ (List.getElem_mem hi)
theorem next_w (L : List Int) (i : Nat) (hi : i < L.length) (h40 : L.length ≤ 40) : wrap64 ((i : Int) + 1) = ((i + 1 : Nat) : Int) := by
  unfold wrap64; omega
theorem sum_l0 (L : List Int) (hL : ∀ x ∈ L, inI x) (h40 : L.length ≤ 40) : ∀ (j k i : Nat) (s : Int), L.length - i = j → i ≤ L.length → j < k → inI s →
    coin_Sum.l0 k s L (L.length : Int) (i : Int) = some (match addAll s (L.drop i) with | some t => (t, none) | none => (0, some 12)) := by
  intro j
  induction j with
  | zero =>
    intro k i s hj hi hk hs
    obtain ⟨k, rfl⟩ : ∃ q, k = q + 1 := ⟨k - 1, by omega⟩
    unfold coin_Sum.l0
    rw [if_neg (by omega), List.drop_of_length_le (by omega)]
    rfl
  | succ j ih =>
    intro k i s hj hi hk hs
    obtain ⟨k, rfl⟩ : ∃ q, k = q + 1 := ⟨k - 1, by omega⟩
    have hil : i < L.length := by omega
    have hr := rd_in L hL i hil
    unfold coin_Sum.l0
    rw [if_pos (by omega), if_pos (by omega), if_pos (by omega), add_none s _ hs hr, drop_rd L i hil, next_w L i hil h40]
    unfold addAll
    by_cases c : inI (s + rd L (i : Int))
    · rw [if_pos (show -9223372036854775808 ≤ s + rd L (i : Int) ∧ s + rd L (i : Int) ≤ 9223372036854775807 from c), if_pos c]
      simp only [Option.bind_some, Option.isNone_none, if_true]
      exact ih k (i + 1) _ (by omega) (by omega) (by omega) c
    · rw [if_neg (show ¬ (-9223372036854775808 ≤ s + rd L (i : Int) ∧ s + rd L (i : Int) ≤ 9223372036854775807) from c), if_neg c]
      simp
theorem law_l1f (L : List Int) (h40 : L.length ≤ 40) : ∀ (j k i : Nat), L.length - i = j → i ≤ L.length → j < k →
    arrearslaw04_CoinSums.l1 k 0 (some 12) 0 false L (L.length : Int) (i : Int) = some true := by
  intro j
  induction j with
  | zero =>
    intro k i hj hi hk
    obtain ⟨k, rfl⟩ : ∃ q, k = q + 1 := ⟨k - 1, by omega⟩
    unfold arrearslaw04_CoinSums.l1
    rw [if_neg (by omega)]
    simp [api_Code.f]
  | succ j ih =>
    intro k i hj hi hk
    obtain ⟨k, rfl⟩ : ∃ q, k = q + 1 := ⟨k - 1, by omega⟩
    have hil : i < L.length := by omega
    unfold arrearslaw04_CoinSums.l1
    rw [if_pos (by omega), if_pos (by omega), if_pos (by omega), if_neg (by decide), next_w L i hil h40]
    exact ih k (i + 1) (by omega) (by omega) (by omega)
theorem law_l1 (L : List Int) (hL : ∀ x ∈ L, inI x) (h40 : L.length ≤ 40) : ∀ (j k i : Nat) (s : Int), L.length - i = j → i ≤ L.length → j < k → inI s →
    (match addAll s (L.drop i) with
      | some t => arrearslaw04_CoinSums.l1 k t none s true L (L.length : Int) (i : Int)
      | none => arrearslaw04_CoinSums.l1 k 0 (some 12) s true L (L.length : Int) (i : Int)) = some true := by
  intro j
  induction j with
  | zero =>
    intro k i s hj hi hk hs
    obtain ⟨k, rfl⟩ : ∃ q, k = q + 1 := ⟨k - 1, by omega⟩
    rw [List.drop_of_length_le (by omega)]
    show arrearslaw04_CoinSums.l1 (k + 1) s none s true L (L.length : Int) (i : Int) = some true
    unfold arrearslaw04_CoinSums.l1
    rw [if_neg (by omega)]
    simp
  | succ j ih =>
    intro k i s hj hi hk hs
    obtain ⟨k, rfl⟩ : ∃ q, k = q + 1 := ⟨k - 1, by omega⟩
    have hil : i < L.length := by omega
    have hr := rd_in L hL i hil
    have hstep : ∀ t e, arrearslaw04_CoinSums.l1 (k + 1) t e s true L (L.length : Int) (i : Int) = (arrearsref04_Add.f s (rd L (i : Int))).bind fun b => arrearslaw04_CoinSums.l1 k t e b.1 b.2 L (L.length : Int) ((i + 1 : Nat) : Int) := by
      intro t e
      rw [arrearslaw04_CoinSums.l1, if_pos (by omega), if_pos (by omega), if_pos (by omega), if_pos rfl, next_w L i hil h40]
    rw [drop_rd L i hil]
    by_cases c : inI (s + rd L (i : Int))
    · have := ih k (i + 1) _ (by omega) (by omega) (by omega) c
      unfold addAll
      rw [if_pos c]
      simp only [hstep]
      rw [refadd_eq s _ hs hr, if_pos (show -9223372036854775808 ≤ s + rd L (i : Int) ∧ s + rd L (i : Int) ≤ 9223372036854775807 from c)]
      simp only [Option.bind_some]
      exact this
    · unfold addAll
      rw [if_neg c]
      simp only [hstep]
      rw [refadd_eq s _ hs hr, if_neg (show ¬ (-9223372036854775808 ≤ s + rd L (i : Int) ∧ s + rd L (i : Int) ≤ 9223372036854775807) from c)]
      simp only [Option.bind_some]
      exact law_l1f L h40 j k (i + 1) (by omega) (by omega) (by omega)
theorem law_l0 (L : List Int) (hL : ∀ x ∈ L, inI x) (h40 : L.length ≤ 40) : ∀ (j k i : Nat), L.length - i = j → i ≤ L.length → 50 + j < k →
    arrearslaw04_CoinSums.l0 k L (L.take i) L (L.length : Int) (i : Int) = some true := by
  intro j
  induction j with
  | zero =>
    intro k i hj hi hk
    obtain ⟨k, rfl⟩ : ∃ q, k = q + 1 := ⟨k - 1, by omega⟩
    unfold arrearslaw04_CoinSums.l0
    rw [if_neg (by omega), List.take_of_length_le (by omega)]
    unfold coin_Sum.f
    have h0 : inI 0 := by unfold inI; omega
    have h1 := sum_l0 L hL h40 L.length k 0 0 rfl (by omega) (by omega) h0
    have h2 := law_l1 L hL h40 L.length k 0 0 rfl (by omega) (by omega) h0
    simp only [List.drop_zero] at h1 h2
    rw [show ((0 : Nat) : Int) = 0 from rfl] at h1 h2
    rw [h1]
    simp only [Option.bind_some]
    cases h : addAll 0 L with
    | none => rw [h] at h2; exact h2
    | some t => rw [h] at h2; exact h2
  | succ j ih =>
    intro k i hj hi hk
    obtain ⟨k, rfl⟩ : ∃ q, k = q + 1 := ⟨k - 1, by omega⟩
    have hil : i < L.length := by omega
    unfold arrearslaw04_CoinSums.l0
    rw [if_pos (by omega), if_pos (by omega), if_pos (by omega), if_pos (by rw [List.length_take]; omega), next_w L i hil h40]
    have e : L.take i ++ [rd L (i : Int)] = L.take (i + 1) := by
      rw [List.take_add_one]
      simp [rd, List.getD, List.getElem?_eq_getElem hil]
    rw [e]
    exact ih k (i + 1) (by omega) (by omega) (by omega)
theorem pure_proved : arrearslaw04_CoinSums.Pure := by
  intro l hl hr
  refine ⟨100, ?_⟩
  unfold arrearslaw04_CoinSums.f
  rw [awake_eq]
  simp only [Option.bind_some, if_true]
  have hm : mn (l.length : Int) 40 = ((min l.length 40 : Nat) : Int) := by unfold mn; split <;> omega
  rw [hm, if_pos (by omega), if_pos (by omega), show (((min l.length 40 : Nat) : Int)).toNat = min l.length 40 by omega]
  have h40 : (l.take (min l.length 40)).length ≤ 40 := by rw [List.length_take]; omega
  rw [if_pos (by simp only [List.length_nil]; omega)]
  simp only [List.nil_append]
  have h := law_l0 (l.take (min l.length 40)) (fun x hx => hr x (List.mem_of_mem_take hx)) h40 (l.take (min l.length 40)).length 100 0 (by omega) (by omega) (by omega)
  exact h

end Go.Proofs.YtkjofbdlholmbaaDoor.PCoinSums
