import Derived.Test.YtdojgjbiilnjpaaDoorWMore
import Derived.Test.YtdojgjbiilnjpaaDoorProg
import Derived.LoopN
set_option linter.unusedVariables false
set_option linter.unusedSimpArgs false
namespace Go.Proofs.YtdojgjbiilnjpaaDoor.M
open Go.RowKit Go.Proofs.YtdojgjbiilnjpaaDoorW.PrintWords Go.Proofs.YtdojgjbiilnjpaaDoorW.PrintLast Go.Proofs.YtdojgjbiilnjpaaDoorW.PrintMore
/-- All but block g and one row is as it was. -/
structure KeepQ (w w' : World) (g : Nat) (row : Option Nat) : Prop where
  os : w'.os = w.os
  tape : w'.tape = w.tape
  output : w'.output = w.output
  size : w.heap.size ≤ w'.heap.size
  block : ∀ i, i < w.heap.size → i ≠ g → some i ≠ row → w'.heap[i]? = w.heap[i]?
theorem KeepQ.refl (w : World) (g : Nat) (row : Option Nat) : KeepQ w w g row := ⟨rfl, rfl, rfl, Nat.le_refl _, fun _ _ _ _ => rfl⟩
theorem KeepQ.below {w w1 w2 : World} {g : Nat} {row : Option Nat} (h : KeepQ w w1 g row) (hb : Below w1.heap.size w1 w2) : KeepQ w w2 g row :=
  ⟨hb.os.trans h.os, hb.tape.trans h.tape, hb.output.trans h.output, Nat.le_trans h.size hb.size, fun i hi hg hr => (hb.block i (Nat.lt_of_lt_of_le hi h.size)).trans (h.block i hi hg hr)⟩
theorem KeepQ.set {w w1 : World} {g : Nat} {row : Option Nat} (h : KeepQ w w1 g row) (o : Nat) (u : Value) : KeepQ w (w1.setCell ⟨g, o, none⟩ u) g row :=
  ⟨h.os, h.tape, h.output, by simpa [World.setCell] using h.size, fun i hi hg hr => (Below.heap_setCell w1 ⟨g, o, none⟩ u i hg).trans (h.block i hi hg hr)⟩
theorem KeepQ.grown {w w1 w2 : World} {g : Nat} {row r2 : Option Nat} (h : KeepQ w w1 g row) (hg : w1.grownBy w2 r2) (hr : r2 = row ∨ (∀ b, r2 = some b → w.heap.size ≤ b)) : KeepQ w w2 g row :=
  ⟨hg.os.trans h.os, hg.tape.trans h.tape, hg.output.trans h.output, Nat.le_trans h.size hg.size, fun i hi hne hro => (hg.block i (Nat.lt_of_lt_of_le hi h.size) (fun e => by
    rcases hr with rfl | hr
    · exact hro e
    · have := hr i e.symm; omega)).trans (h.block i hi hne hro)⟩
theorem KeepQ.trans {w w1 w2 : World} {g : Nat} {row r2 : Option Nat} (h : KeepQ w w1 g row) (hg : KeepQ w1 w2 g r2) (hr : r2 = row ∨ (∀ b, r2 = some b → w.heap.size ≤ b)) : KeepQ w w2 g row :=
  ⟨hg.os.trans h.os, hg.tape.trans h.tape, hg.output.trans h.output, Nat.le_trans h.size hg.size, fun i hi hne hro => (hg.block i (Nat.lt_of_lt_of_le hi h.size) hne (fun e => by
    rcases hr with rfl | hr
    · exact hro e
    · have := hr i e.symm; omega)).trans (h.block i hi hne hro)⟩
/-- A row's block is the elder one's, or new since w. -/
def Since (w : World) (v v' : Value) : Prop := v'.ownBlock = v.ownBlock ∨ ∃ b, v'.ownBlock = some b ∧ w.heap.size ≤ b
theorem Since.refl (w : World) (v : Value) : Since w v v := .inl rfl
theorem Since.trans {w w1 : World} {v v1 v2 : Value} (h : Since w v v1) (k : Since w1 v1 v2) (hs : w.heap.size ≤ w1.heap.size) : Since w v v2 := by
  rcases k with k | ⟨b, k, hb⟩
  · rw [Since, k]; exact h
  · exact .inr ⟨b, k, by omega⟩
theorem Since.row {w : World} {v v1 : Value} (h : Since w v v1) : v1.ownBlock = v.ownBlock ∨ (∀ b, v1.ownBlock = some b → w.heap.size ≤ b) := by
  rcases h with h | ⟨b, h, hb⟩
  · exact .inl h
  · exact .inr fun b' h' => by rw [h] at h'; injection h' with h'; omega
/-- A row of bytes. -/
def Bys (w : World) (v : Value) (l : List Int) : Prop := w.ownsRow 0 5 1 v l.length (nums .u8 l)
theorem Bys.nil (w : World) : Bys w (.slice none 0 0) [] := own_nil w 0 _ 1
theorem Bys.of {w : World} {b : Nat} {v : Value} {l : List Int} (h : w.ownsRow b 5 1 v l.length (nums .u8 l)) : Bys w v l := own_less h (Nat.zero_le _)
theorem Bys.typed {w : World} {v : Value} {l : List Int} (h : Bys w v l) : ∀ k, v.ownBlock = some k → ∃ cells, w.heap[k]? = some (.cells cells 5 (0, 0)) := own_typed h
theorem Bys.move {w w1 : World} {v : Value} {l : List Int} (h : Bys w v l) (hm : ∀ k, v.ownBlock = some k → w1.heap[k]? = w.heap[k]?) : Bys w1 v l := own_move h hm
theorem Bys.below {w w1 : World} {v : Value} {l : List Int} (h : Bys w v l) (hb : Below w.heap.size w w1) : Bys w1 v l := pw_own_below h hb
theorem Bys.lt {w : World} {v : Value} {l : List Int} (h : Bys w v l) (k : Nat) (hk : v.ownBlock = some k) : k < w.heap.size := own_lt h k hk
/-- What a call over another quill keeps. -/
theorem Bys.keep {w w1 : World} {g : Nat} {row : Option Nat} {v : Value} {l : List Int} (h : Bys w v l) (hk : KeepQ w w1 g row) (hg : some g ≠ v.ownBlock) (hr : ∀ k, v.ownBlock = some k → some k ≠ row) : Bys w1 v l :=
  h.move fun k hk' => hk.block k (h.lt k hk') (fun e => hg (e ▸ hk'.symm)) (hr k hk')
theorem Bys.slice {w : World} {v : Value} {l : List Int} (h : Bys w v l) : ∃ A c, v = .slice A l.length c ∧ l.length ≤ c ∧ Kd.C (Kd.int .u8) w A l.length l := by
  have h2 : (Kd.int .u8).R 5 w 0 (fun _ => True) v l := Kd.R_of_own (enc := Value.int .u8) (by unfold Bys nums at h; unfold encs; exact h) (fun _ _ => trivial)
  exact Kd.R_reads h2
/-- A quill: its cell, its row. -/
structure Qu (w : World) (g : Nat) (v : Value) (l : List Int) : Prop where
  blk : w.heap[g]? = some (.cells #[v] 53 (0, 0))
  row : Bys w v l
theorem Qu.ne {w : World} {g : Nat} {v : Value} {l : List Int} (h : Qu w g v l) {v' : Value} {l' : List Int} (h' : Bys w v' l') : some g ≠ v'.ownBlock := fun e => by
  obtain ⟨cells, hc⟩ := h'.typed g e.symm
  have := h.blk.symm.trans hc
  injection this with this
  injection this with _ this
  exact absurd this (by decide)
theorem Qu.below {w w1 : World} {g : Nat} {v : Value} {l : List Int} (h : Qu w g v l) (hb : Below w.heap.size w w1) : Qu w1 g v l := ⟨blk_below h.blk hb, h.row.below hb⟩
theorem Qu.keep {w w1 : World} {g g1 : Nat} {row : Option Nat} {v : Value} {l : List Int} (h : Qu w g v l) (hk : KeepQ w w1 g1 row) (hg : g ≠ g1) (hg1 : some g1 ≠ v.ownBlock) (hgr : some g ≠ row) (hr : ∀ k, v.ownBlock = some k → some k ≠ row) : Qu w1 g v l :=
  ⟨(hk.block g (blk_lt h.blk) hg hgr).trans h.blk, h.row.keep hk hg1 hr⟩
theorem hq1 {w : World} {g : Nat} {v v' : Value} {l : List Int} (h' : Bys w v' l) (hb : w.heap[g]? = some (.cells #[v] 53 (0, 0))) : v'.ownBlock ≠ some g := fun e => by
  obtain ⟨cells, hc⟩ := h'.typed g e
  have := hb.symm.trans hc
  injection this with this
  injection this with _ this
  exact absurd this (by decide)
theorem byt_info : (Tryd.prog.info? 5).map (fun i => (i.zero, i.size, i.bytes)) = some (some (.int .u8 0), 1, 1) := by kernel_rfl
def findR (n : Nat) : Code → Option (Array Oper × Bool)
  | .region id ops d => if id == n then some (ops, d) else none
  | .seq a b => (findR n a).orElse fun _ => findR n b
  | .cond _ a b => (findR n a).orElse fun _ => findR n b
  | .block _ a => findR n a
  | .loop a => findR n a
  | .scope a => findR n a
  | _ => none

end Go.Proofs.YtdojgjbiilnjpaaDoor.M
