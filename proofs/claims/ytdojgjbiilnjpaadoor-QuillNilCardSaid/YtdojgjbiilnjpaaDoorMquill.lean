import Derived.Test.YtdojgjbiilnjpaaDoorMquilx
import Derived.Lib.Hide
set_option linter.unusedVariables false
set_option linter.unusedSimpArgs false
namespace Go.Proofs.YtdojgjbiilnjpaaDoor.M
open Go.RowKit Go.Proofs.YtdojgjbiilnjpaaDoorW.PrintWords Go.Proofs.YtdojgjbiilnjpaaDoorW.PrintLast Go.Proofs.YtdojgjbiilnjpaaDoorW.PrintMore
theorem addr_add (b o m : Nat) : (⟨b, o, none⟩ : Addr).add m = ⟨b, o + m, none⟩ := by unfold Addr.add; split <;> simp_all
/-- Bytes that are read at A, in a block below N. -/
def RowB (N : Nat) (w : World) (A : Option Addr) (l : List Int) : Prop :=
  l ≠ [] → ∃ b o cur, A = some ⟨b, o, none⟩ ∧ b < N ∧ w.heap[b]? = some (.cells cur 5 (0, 0)) ∧ ∀ j, j < l.length → cur[o + j]? = some (.int .u8 (l.getD j 0))
theorem RowB.nil (N : Nat) (w : World) (A : Option Addr) : RowB N w A [] := fun h => absurd rfl h
theorem RowB.reads {N : Nat} {w : World} {A : Option Addr} {l : List Int} (h : RowB N w A l) (hl : l.length ≤ 9223372036854775807) : ReadsInt w .u8 A l.length l := by
  refine ⟨rfl, hl, fun hn => ?_⟩
  obtain ⟨b, o, cur, rfl, _, hb, hc⟩ := h (by rintro rfl; simp at hn)
  exact ⟨_, rfl, fun j hj => by rw [addr_add]; exact (blk_cell hb _).trans (hc j hj)⟩
theorem RowB.take {N : Nat} {w : World} {A : Option Addr} {l : List Int} (h : RowB N w A l) (n : Nat) : RowB N w A (l.take n) := by
  intro hne
  obtain ⟨b, o, cur, rfl, hN, hb, hc⟩ := h (by rintro rfl; simp at hne)
  refine ⟨b, o, cur, rfl, hN, hb, fun j hj => ?_⟩
  have hj' : j < n ∧ j < l.length := by rw [List.length_take] at hj; omega
  rw [hc j hj'.2]
  simp [List.getD_eq_getElem?_getD, hj'.1]
theorem RowB.cut {N : Nat} {w : World} {A : Option Addr} {l : List Int} (h : RowB N w A l) (m c : Nat) (hm : m ≤ l.length) (hc : l.length ≤ c) : RowB N w (if c = m then A else A.map (·.add m)) (l.drop m) := by
  intro hne
  have hlt : m < l.length := by
    rcases Nat.lt_or_ge m l.length with h | h
    · exact h
    · exact absurd (List.drop_eq_nil_of_le h) hne
  obtain ⟨b, o, cur, rfl, hN, hb, hcell⟩ := h (by rintro rfl; simp at hlt)
  rw [if_neg (by omega)]
  refine ⟨b, o + m, cur, by simp [addr_add], hN, hb, fun j hj => ?_⟩
  rw [List.length_drop] at hj
  rw [Nat.add_assoc, hcell (m + j) (by omega)]
  simp [List.getD_eq_getElem?_getD, List.getElem?_drop]
theorem RowB.move {N : Nat} {w w1 : World} {A : Option Addr} {l : List Int} (h : RowB N w A l) (hm : ∀ b cur, b < N → w.heap[b]? = some (.cells cur 5 (0, 0)) → w1.heap[b]? = w.heap[b]?) : RowB N w1 A l := by
  intro hne
  obtain ⟨b, o, cur, hA, hN, hb, hc⟩ := h hne
  exact ⟨b, o, cur, hA, hN, (hm b cur hN hb).trans hb, hc⟩
theorem RowB.keep {N : Nat} {w w1 : World} {g : Nat} {A : Option Addr} {l : List Int} (h : RowB N w A l) (hk : KeepQ w w1 g none) (hg : ∀ cur, w.heap[g]? ≠ some (.cells cur 5 (0, 0))) : RowB N w1 A l :=
  h.move fun b cur _ hb => hk.block b (blk_lt hb) (fun e => by subst e; exact hg cur hb) (by simp)
theorem RowB.of {w : World} {A : Option Addr} {c : Nat} {l : List Int} (h : Bys w (.slice A l.length c) l) : RowB w.heap.size w A l := by
  intro hne
  rcases h.2 with ⟨h1, _⟩ | ⟨g, cap, cur, h1, _, hg, hnc, _, hcs, ht⟩
  · injection h1 with h1 h2
    exact absurd (List.eq_nil_of_length_eq_zero h2) hne
  · injection h1 with h1 h2 h3
    refine ⟨g, 0, cur, h1, (Array.getElem?_eq_some_iff.1 hg).1, hg, fun j hj => ?_⟩
    have e : cur.toList[j]? = (nums .u8 l)[j]? := by
      rw [← ht, Nat.mul_one, List.getElem?_take, if_pos hj]
    rw [Nat.zero_add, ← Array.getElem?_toList, e]
    simp [nums, List.getElem?_eq_getElem hj, List.getD_eq_getElem?_getD]
/-- A lens: its two cells; its bytes lie in a block below N. -/
structure Ln (N : Nat) (w : World) (g : Nat) (A : Option Addr) (c : Nat) (l : List Int) (bad : Bool) : Prop where
  blk : w.heap[g]? = some (.cells #[.slice A l.length c, .bool bad] 59 (0, 0))
  le : l.length ≤ c
  row : RowB N w A l
  len : l.length ≤ 1000000
  rng : ∀ x ∈ l, 0 ≤ x ∧ x ≤ 255
/-- A lens's state: what is left, or nothing more is right. -/
def Le (N : Nat) (w : World) (g : Nat) (s : Option (List Int)) : Prop := ∃ A c, match s with | some l => Ln N w g A c l false | none => Ln N w g A c [] true
theorem Ln.keep {N : Nat} {w w1 : World} {g g1 : Nat} {row : Option Nat} {A : Option Addr} {c : Nat} {l : List Int} {bad : Bool} (h : Ln N w g A c l bad) (hk : KeepQ w w1 g1 row) (hg : g ≠ g1) (hgr : some g ≠ row) (hr : ∀ k, row = some k → N ≤ k) (hg1 : ∀ cur, w.heap[g1]? ≠ some (.cells cur 5 (0, 0))) : Ln N w1 g A c l bad :=
  ⟨(hk.block g (blk_lt h.blk) hg hgr).trans h.blk, h.le, h.row.move fun b cur hN hb => hk.block b (blk_lt hb) (fun e => by subst e; exact hg1 cur hb) (fun e => by have := hr b e.symm; omega), h.len, h.rng⟩
theorem Ln.below {N : Nat} {w w1 : World} {g : Nat} {A : Option Addr} {c : Nat} {l : List Int} {bad : Bool} (h : Ln N w g A c l bad) (hb : Below w.heap.size w w1) : Ln N w1 g A c l bad :=
  ⟨blk_below h.blk hb, h.le, h.row.move fun b cur _ hc => hb.block b (blk_lt hc), h.len, h.rng⟩
theorem Le.below {N : Nat} {w w1 : World} {g : Nat} {s : Option (List Int)} (h : Le N w g s) (hb : Below w.heap.size w w1) : Le N w1 g s := by
  obtain ⟨A, c, h⟩ := h
  cases s with
  | none => exact ⟨A, c, Ln.below h hb⟩
  | some l => exact ⟨A, c, Ln.below h hb⟩
theorem Le.keep {N : Nat} {w w1 : World} {g g1 : Nat} {row : Option Nat} {s : Option (List Int)} (h : Le N w g s) (hk : KeepQ w w1 g1 row) (hg : g ≠ g1) (hgr : some g ≠ row) (hr : ∀ k, row = some k → N ≤ k) (hg1 : ∀ cur, w.heap[g1]? ≠ some (.cells cur 5 (0, 0))) : Le N w1 g s := by
  obtain ⟨A, c, h⟩ := h
  cases s with
  | none => exact ⟨A, c, Ln.keep h hk hg hgr hr hg1⟩
  | some l => exact ⟨A, c, Ln.keep h hk hg hgr hr hg1⟩
theorem Ln.mono {N N1 : Nat} {w : World} {g : Nat} {A : Option Addr} {c : Nat} {l : List Int} {bad : Bool} (h : Ln N w g A c l bad) (hN : N ≤ N1) : Ln N1 w g A c l bad :=
  ⟨h.blk, h.le, fun hne => by obtain ⟨b, o, cur, h1, h2, h3⟩ := h.row hne; exact ⟨b, o, cur, h1, by omega, h3⟩, h.len, h.rng⟩
theorem Ln.blk_ne {N : Nat} {w : World} {g : Nat} {A : Option Addr} {c : Nat} {l : List Int} {bad : Bool} (h : Ln N w g A c l bad) (cur : Array Value) : w.heap[g]? ≠ some (.cells cur 5 (0, 0)) := fun e => by
  have := h.blk.symm.trans e
  injection this with this
  injection this with _ this
  exact absurd this (by decide)
/-- What a reading call leaves. -/
def LDone (N : Nat) (w : World) (g : Nat) (s : Option (List Int)) (w' : World) : Prop := Le N w' g s ∧ KeepQ w w' g none
theorem LDone.trans {N : Nat} {w w1 w2 : World} {g : Nat} {s1 s2 : Option (List Int)} (h : LDone N w g s1 w1) (k : LDone N w1 g s2 w2) : LDone N w g s2 w2 := ⟨k.1, h.2.trans k.2 (.inl rfl)⟩
set_option maxHeartbeats 4000000 in
set_option maxRecDepth 100000 in
theorem lens_fail (N g : Nat) (A : Option Addr) (c : Nat) (l : List Int) (bad : Bool) (w : World) (h : Ln N w g A c l bad) :
    Calls Tryd.prog 31 #[.pointer (some ⟨g, 0, none⟩)] w fun e w' => e = .returned (.tuple #[]) ∧ LDone N w g none w' := by
  have hf0 := blk_frozen h.blk 0
  have hf1 := blk_frozen h.blk 1
  have hc0 : w.cell? ⟨g, 0, none⟩ = some (.slice A l.length c) := blk_cell h.blk 0
  have hc1 : w.cell? ⟨g, 1, none⟩ = some (.bool bad) := blk_cell h.blk 1
  have HL := Aside0.mk h
  clear h
  go_enter Tryd.func31, Tryd.ntmps31
  go_wp2
  first | go_end0 | refine bodyPost_ret (results_none rfl _ _ _) rfl ?_
  exact ⟨rfl, ⟨none, 0, blk_put (blk_put HL.out.blk 0 _ rfl) 1 _ rfl, Nat.zero_le _, RowB.nil _ _ _, Nat.zero_le _, fun x hx => by cases hx⟩, ((KeepQ.refl w g none).set _ _).set _ _⟩
set_option maxHeartbeats 4000000 in
set_option maxRecDepth 100000 in
theorem lens_fail_nil (w : World) :
    Calls Tryd.prog 31 #[.pointer none] w fun e w' => e = .returned (.tuple #[]) ∧ w = w' := by
  go_enter Tryd.func31, Tryd.ntmps31
  go_wp2
  first | go_end0 | refine bodyPost_ret (results_none rfl _ _ _) rfl ?_
  exact ⟨rfl, rfl⟩
set_option maxHeartbeats 4000000 in
set_option maxRecDepth 100000 in
theorem lens_take_ok (N g : Nat) (l : List Int) (A : Option Addr) (c : Nat) (n : Int) (w : World) (hn0 : 0 ≤ n) (hn : n ≤ l.length) (h : Ln N w g A c l false) :
    Calls Tryd.prog 32 #[.pointer (some ⟨g, 0, none⟩), .int .i64 n] w fun e w' => e = .returned (.tuple #[.slice A n.toNat n.toNat, .bool true]) ∧ LDone N w g (some (l.drop n.toNat)) w' ∧ RowB N w' A (l.take n.toNat) := by
  obtain ⟨i0, hi, hzz⟩ := Option.map_eq_some_iff.1 byt_info
  simp only [Prod.mk.injEq] at hzz
  obtain ⟨hz0, hz1, hz2⟩ := hzz
  have hel : Tryd.prog.elem 22 = 5 := by simp [Program.elem, Tryd.underlying22]
  have hu : Tryd.prog.underlying 22 = some (.slice (Tryd.prog.elem 22)) := by rw [hel]; exact Tryd.underlying22
  have hle := h.le
  obtain ⟨A', hA'⟩ : ∃ A', A' = (if c = n.toNat then A else A.map (·.add n.toNat)) := ⟨_, rfl⟩
  have ha : (A.map fun x => x.add 0) = A := by cases A <;> simp [Addr.add]
  have s1 : ∀ W : World, (Instr.slice 22 (.slice A l.length c) none (some (.int .i64 n)) (some (.int .i64 n))).run Tryd.prog W = .ok (.slice A n.toNat n.toNat) W := fun W => by
    rw [run_slice_hm W 22 A l.length c hu .i64 .i64 n n hn0 (Int.le_refl _) (by omega), hel]
    simp [sizeOf, typeInfo, hi, hz1, sliced, Result.andThen, ha]
  have s2 : ∀ W : World, (Instr.slice 22 (.slice A l.length c) (some (.int .i64 n)) none none).run Tryd.prog W = .ok (.slice A' (l.drop n.toNat).length (c - n.toNat)) W := fun W => by
    rw [run_slice_l W 22 A l.length c hu .i64 n hn0 hn, hel, hA']
    simp [sizeOf, typeInfo, hi, hz1, sliced, Result.andThen]
  have S1 := Lib.hid s1
  have S2 := Lib.hid s2
  have hf0 := blk_frozen h.blk 0
  have hf1 := blk_frozen h.blk 1
  have hc0 : w.cell? ⟨g, 0, none⟩ = some (.slice A l.length c) := blk_cell h.blk 0
  have hc1 : w.cell? ⟨g, 1, none⟩ = some (.bool false) := blk_cell h.blk 1
  have HL := Aside0.mk h
  have HA := Aside0.mk hA'
  clear h hA' hel hu hi hz0 hz1 hz2 ha S1 S2
  obtain ⟨L, hL⟩ : ∃ z : Int, z = (l.length : Nat) := ⟨_, rfl⟩
  have hnl : ¬ (l.length : Int) < n := by omega
  clear hL
  go_enter Tryd.func32, Tryd.ntmps32
  go_wp2
  go_ret2
  have hk : KeepQ w (w.setCell ⟨g, 0, none⟩ (.slice A' (l.length - n.toNat) (c - n.toNat))) g none := (KeepQ.refl w g none).set _ _
  refine ⟨rfl, ⟨⟨A', c - n.toNat, ?_, ?_, ?_, ?_, ?_⟩, hk⟩, (HL.out.row.take _).keep hk HL.out.blk_ne⟩
  · rw [List.length_drop]
    exact blk_put HL.out.blk 0 _ rfl
  · rw [List.length_drop]
    omega
  · have := HL.out.row.cut n.toNat c (by omega) HL.out.le
    rw [← HA.out] at this
    exact this.keep hk HL.out.blk_ne
  · rw [List.length_drop]
    have := HL.out.len
    omega
  · exact fun x hx => HL.out.rng x (List.mem_of_mem_drop hx)
set_option maxHeartbeats 4000000 in
set_option maxRecDepth 100000 in
theorem lens_take_long (N g : Nat) (l : List Int) (A : Option Addr) (c : Nat) (n : Int) (w : World) (hn : (l.length : Int) < n) (h : Ln N w g A c l false) :
    Calls Tryd.prog 32 #[.pointer (some ⟨g, 0, none⟩), .int .i64 n] w fun e w' => e = .returned (.tuple #[.slice none 0 0, .bool false]) ∧ LDone N w g none w' := by
  have HC := Aside0.mk (lens_fail N g A c l false w h)
  have hc0 : w.cell? ⟨g, 0, none⟩ = some (.slice A l.length c) := blk_cell h.blk 0
  have hc1 : w.cell? ⟨g, 1, none⟩ = some (.bool false) := blk_cell h.blk 1
  clear h
  go_enter Tryd.func32, Tryd.ntmps32
  go_wp2_with (go_at_call 31; refine HC.out.mono ?_; rintro e w5 ⟨rfl, hd⟩; have HD := Aside0.mk hd; clear hd)
  go_ret2
  exact ⟨rfl, HD.out⟩
set_option maxHeartbeats 4000000 in
set_option maxRecDepth 100000 in
theorem lens_take_bad (N g : Nat) (A : Option Addr) (c : Nat) (n : Int) (w : World) (h : Ln N w g A c [] true) :
    Calls Tryd.prog 32 #[.pointer (some ⟨g, 0, none⟩), .int .i64 n] w fun e w' => e = .returned (.tuple #[.slice none 0 0, .bool false]) ∧ LDone N w g none w' := by
  have HC := Aside0.mk (lens_fail N g A c [] true w h)
  have hc0 : w.cell? ⟨g, 0, none⟩ = some (.slice A 0 c) := blk_cell h.blk 0
  have hc1 : w.cell? ⟨g, 1, none⟩ = some (.bool true) := blk_cell h.blk 1
  clear h
  go_enter Tryd.func32, Tryd.ntmps32
  go_wp2_with (go_at_call 31; refine HC.out.mono ?_; rintro e w5 ⟨rfl, hd⟩; have HD := Aside0.mk hd; clear hd)
  go_ret2
  exact ⟨rfl, HD.out⟩
set_option maxHeartbeats 4000000 in
set_option maxRecDepth 100000 in
theorem lens_take_nil (n : Int) (w : World) :
    Calls Tryd.prog 32 #[.pointer none, .int .i64 n] w fun e w' => e = .returned (.tuple #[.slice none 0 0, .bool false]) ∧ w = w' := by
  have HC := Aside0.mk (lens_fail_nil w)
  go_enter Tryd.func32, Tryd.ntmps32
  go_wp2_with (go_at_call 31; refine HC.out.mono ?_; rintro e w5 ⟨rfl, rfl⟩)
  go_ret2
  exact ⟨rfl, rfl⟩
/-- So many bytes, or none more. -/
theorem lens_take_not (N g : Nat) (s : Option (List Int)) (n : Int) (w : World) (hs : ∀ l, s = some l → (l.length : Int) < n) (h : Le N w g s) :
    Calls Tryd.prog 32 #[.pointer (some ⟨g, 0, none⟩), .int .i64 n] w fun e w' => e = .returned (.tuple #[.slice none 0 0, .bool false]) ∧ LDone N w g none w' := by
  obtain ⟨A, c, h⟩ := h
  cases s with
  | none => exact lens_take_bad N g A c n w h
  | some l => exact lens_take_long N g l A c n w (hs l rfl) h
theorem lens_fail_any (N g : Nat) (s : Option (List Int)) (w : World) (h : Le N w g s) :
    Calls Tryd.prog 31 #[.pointer (some ⟨g, 0, none⟩)] w fun e w' => e = .returned (.tuple #[]) ∧ LDone N w g none w' := by
  obtain ⟨A, c, h⟩ := h
  cases s with
  | none => exact lens_fail N g A c [] true w h
  | some l => exact lens_fail N g A c l false w h

end Go.Proofs.YtdojgjbiilnjpaaDoor.M
