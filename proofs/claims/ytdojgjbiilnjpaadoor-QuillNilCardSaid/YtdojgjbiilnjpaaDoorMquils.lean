import Derived.Test.YtdojgjbiilnjpaaDoorMquilr
set_option linter.unusedVariables false
set_option linter.unusedSimpArgs false
namespace Go.Proofs.YtdojgjbiilnjpaaDoor.M
open Go.RowKit Go.Proofs.YtdojgjbiilnjpaaDoorW.PrintWords Go.Proofs.YtdojgjbiilnjpaaDoorW.PrintLast Go.Proofs.YtdojgjbiilnjpaaDoorW.PrintMore
theorem KeepQ.toBelow {w0 w1 w2 : World} {g : Nat} {row : Option Nat} (h : KeepQ w1 w2 g row) (hb : Below w0.heap.size w0 w1) (hg : w0.heap.size ≤ g) (hr : ∀ k, row = some k → w0.heap.size ≤ k) : Below w0.heap.size w0 w2 :=
  ⟨h.os.trans hb.os, h.tape.trans hb.tape, h.output.trans hb.output, Nat.le_trans hb.size h.size, fun k hk => (h.block k (Nat.lt_of_lt_of_le hk hb.size) (by omega) (fun e => by have := hr k e.symm; omega)).trans (hb.block k hk)⟩
theorem QDone.law {w0 w w' : World} {g : Nat} {v : Value} {l : List Int} (h : QDone w g v l w') (hb : Below w0.heap.size w0 w) (hg : w0.heap.size ≤ g) (hv : ∀ k, v.ownBlock = some k → w0.heap.size ≤ k) :
    ∃ v', Qu w' g v' l ∧ (∀ k, v'.ownBlock = some k → w0.heap.size ≤ k) ∧ Below w0.heap.size w0 w' ∧ KeepQ w w' g v.ownBlock ∧ Since w v v' := by
  obtain ⟨v', h1, h2, h3⟩ := h
  refine ⟨v', h1, ?_, h2.toBelow hb hg hv, h2, h3⟩
  rcases h3 with h3 | ⟨b, h3, h4⟩
  · rw [h3]
    exact hv
  · intro k hk
    rw [h3] at hk
    injection hk with hk
    have := hb.size
    omega
theorem LDone.law {N : Nat} {w0 w w' : World} {g : Nat} {s : Option (List Int)} (h : LDone N w g s w') (hb : Below w0.heap.size w0 w) (hg : w0.heap.size ≤ g) : Below w0.heap.size w0 w' := h.2.toBelow hb hg (fun k e => by cases e)
theorem nil_own (B : Nat) : ∀ k, (Value.slice none 0 0).ownBlock = some k → B ≤ k := fun k e => by simp [Value.ownBlock] at e
theorem Bys.ofR {w : World} {base : Nat} {ok : Nat → Prop} {v : Value} {l : List Int} (h : (Kd.int .u8).R 5 w base ok v l) : Bys w v l := Bys.of (Kd.own_of_R (enc := Value.int .u8) h)
theorem Bys.toR {w : World} {v : Value} {l : List Int} (h : Bys w v l) {ok : Nat → Prop} (hok : ∀ k, v.ownBlock = some k → ok k) : (Kd.int .u8).R 5 w 0 ok v l := Kd.R_of_own (enc := Value.int .u8) (by unfold Bys nums at h; unfold encs; exact h) hok
theorem Bys.rd {w : World} {A : Option Addr} {c : Nat} {l : List Int} (h : Bys w (.slice A l.length c) l) : (Kd.int .u8).C w A l.length l ∧ l.length ≤ c := by
  obtain ⟨A', c', e, h1, h2⟩ := h.slice
  injection e with e1 e2 e3
  subst e1 e3
  exact ⟨h2, h1⟩
theorem Qu.new {w w1 : World} {g : Nat} (h : w1.heap[g]? = some (.cells #[.slice none 0 0] 53 (0, 0))) : Qu w1 g (.slice none 0 0) [] := ⟨h, Bys.nil _⟩
theorem Bys.keepQ {w w1 : World} {g : Nat} {vq v : Value} {lq l : List Int} (h : Bys w v l) (hk : KeepQ w w1 g vq.ownBlock) (hq : Qu w g vq lq) (hne : ∀ k, v.ownBlock = some k → vq.ownBlock ≠ some k) : Bys w1 v l :=
  h.keep hk (hq.ne h) (fun k hk' e => hne k hk' e.symm)
theorem Bys.keepL {N : Nat} {w w1 : World} {g : Nat} {s s' : Option (List Int)} {v : Value} {l : List Int} (h : Bys w v l) (hk : LDone N w g s' w1) (hL : Le N w g s) : Bys w1 v l :=
  h.keep hk.2 (fun e => by
    obtain ⟨cells, hc⟩ := h.typed g e.symm
    obtain ⟨A, c, hL⟩ := hL
    cases s with
    | none => exact hL.blk_ne cells hc
    | some l => exact hL.blk_ne cells hc) (fun k _ e => by cases e)
theorem Le.ty {N : Nat} {w : World} {g : Nat} {s : Option (List Int)} (h : Le N w g s) : Ty w g 59 := by
  obtain ⟨A, c, h⟩ := h
  cases s with
  | none => exact Ty.of h.blk
  | some l => exact Ty.of h.blk
theorem Le.lt {N : Nat} {w : World} {g : Nat} {s : Option (List Int)} (h : Le N w g s) : g < w.heap.size := by
  obtain ⟨cs, h⟩ := h.ty
  exact blk_lt h
theorem Ty.eq {w : World} {b : Nat} {t t' : TypeId} (h : Ty w b t) (h' : Ty w b t') : t = t' := by
  obtain ⟨cs, h⟩ := h
  obtain ⟨cs', h'⟩ := h'
  have := h.symm.trans h'
  injection this with this
  injection this with _ this
theorem Qu.ty {w : World} {g : Nat} {v : Value} {l : List Int} (h : Qu w g v l) : Ty w g 53 := Ty.of h.blk
theorem Bys.tyo {w : World} {v : Value} {l : List Int} (h : Bys w v l) {k : Nat} (hk : v.ownBlock = some k) : Ty w k 5 := h.typed k hk
theorem Qu.farL {N : Nat} {w w1 : World} {g g4 : Nat} {v : Value} {l : List Int} {s s' : Option (List Int)} (h : Qu w g v l) (hd : LDone N w g4 s' w1) (hL : Le N w g4 s) : Qu w1 g v l :=
  h.keep hd.2 (fun e => by subst e; exact absurd (h.ty.eq hL.ty) (by decide)) (fun e => absurd ((h.row.tyo e.symm).eq hL.ty) (by decide)) (by simp) (fun k _ e => by cases e)
theorem Le.farQ {N : Nat} {w w1 : World} {g g4 : Nat} {v : Value} {l : List Int} {s : Option (List Int)} (h : Le N w g4 s) (hk : KeepQ w w1 g v.ownBlock) (hq : Qu w g v l) (hb : ∀ k, v.ownBlock = some k → N ≤ k) : Le N w1 g4 s :=
  h.keep hk (fun e => by subst e; exact absurd (h.ty.eq hq.ty) (by decide)) (fun e => absurd ((hq.row.tyo e.symm).eq h.ty) (by decide)) hb (hq.ty.ne (by decide))
theorem Qu.setB {w : World} {g b : Nat} {v : Value} {l : List Int} {t : TypeId} (h : Qu w g v l) (hT : Ty w b t) (h1 : 53 ≠ t) (h2 : 5 ≠ t) (o : Nat) (u : Value) : Qu (w.setCell ⟨b, o, none⟩ u) g v l :=
  h.keep ((KeepQ.refl w b none).set o u) (fun e => by subst e; exact h1 (h.ty.eq hT)) (fun e => h2 ((h.row.tyo e.symm).eq hT)) (by simp) (fun k _ e => by cases e)
theorem Bys.setB {w : World} {b : Nat} {v : Value} {l : List Int} {t : TypeId} (h : Bys w v l) (hT : Ty w b t) (h2 : 5 ≠ t) (o : Nat) (u : Value) : Bys (w.setCell ⟨b, o, none⟩ u) v l :=
  h.keep ((KeepQ.refl w b none).set o u) (fun e => h2 ((h.tyo e.symm).eq hT)) (fun k _ e => by cases e)
theorem Le.setB {N : Nat} {w : World} {g b : Nat} {s : Option (List Int)} {t : TypeId} (h : Le N w g s) (hT : Ty w b t) (h1 : 59 ≠ t) (h2 : t ≠ 5) (o : Nat) (u : Value) : Le N (w.setCell ⟨b, o, none⟩ u) g s :=
  h.keep ((KeepQ.refl w b none).set o u) (fun e => by subst e; exact h1 (h.ty.eq hT)) (by simp) (fun k e => by cases e) (hT.ne h2)
theorem own_since {w : World} {v v' : Value} {N : Nat} (hs : Since w v v') (hv : ∀ k, v.ownBlock = some k → N ≤ k) (hN : N ≤ w.heap.size) : ∀ k, v'.ownBlock = some k → N ≤ k := by
  intro k hk
  rcases hs with hs | ⟨b, hs, hb⟩
  · exact hv k (hs ▸ hk)
  · rw [hs] at hk
    injection hk with hk
    omega
/-- A box of a value that is being laid: what five stores leave. -/
def setV (w : World) (b : Nat) (x0 x1 x2 : Int) (s : ByteArray) (x4 : Int) : World :=
  ((((w.setCell ⟨b, 0, none⟩ (.int .u8 x0)).setCell ⟨b, 1, none⟩ (.int .u64 x1)).setCell ⟨b, 2, none⟩ (.int .i64 x2)).setCell ⟨b, 3, none⟩ (.string s)).setCell ⟨b, 4, none⟩ (.int .u64 x4)
theorem setV_blk {w : World} {b : Nat} {a0 a1 a2 a3 a4 : Value} {x0 x1 x2 : Int} {s : ByteArray} {x4 : Int} (h : w.heap[b]? = some (.cells #[a0, a1, a2, a3, a4] 31 (0, 0))) :
    (setV w b x0 x1 x2 s x4).heap[b]? = some (.cells #[.int .u8 x0, .int .u64 x1, .int .i64 x2, .string s, .int .u64 x4] 31 (0, 0)) :=
  blk_put (blk_put (blk_put (blk_put (blk_put h 0 _ rfl) 1 _ rfl) 2 _ rfl) 3 _ rfl) 4 _ rfl
theorem setV_Le {N : Nat} {w : World} {g b : Nat} {s0 : Option (List Int)} {x0 x1 x2 : Int} {s : ByteArray} {x4 : Int} (h : Le N w g s0) (hT : Ty w b 31) : Le N (setV w b x0 x1 x2 s x4) g s0 :=
  ((((h.setB hT (by decide) (by decide) _ _).setB (hT.set _ _ _) (by decide) (by decide) _ _).setB ((hT.set _ _ _).set _ _ _) (by decide) (by decide) _ _).setB (((hT.set _ _ _).set _ _ _).set _ _ _) (by decide) (by decide) _ _).setB ((((hT.set _ _ _).set _ _ _).set _ _ _).set _ _ _) (by decide) (by decide) _ _
theorem setV_Qu {w : World} {g b : Nat} {v : Value} {l : List Int} {x0 x1 x2 : Int} {s : ByteArray} {x4 : Int} (h : Qu w g v l) (hT : Ty w b 31) : Qu (setV w b x0 x1 x2 s x4) g v l :=
  ((((h.setB hT (by decide) (by decide) _ _).setB (hT.set _ _ _) (by decide) (by decide) _ _).setB ((hT.set _ _ _).set _ _ _) (by decide) (by decide) _ _).setB (((hT.set _ _ _).set _ _ _).set _ _ _) (by decide) (by decide) _ _).setB ((((hT.set _ _ _).set _ _ _).set _ _ _).set _ _ _) (by decide) (by decide) _ _
theorem setV_Bys {w : World} {b : Nat} {v : Value} {l : List Int} {x0 x1 x2 : Int} {s : ByteArray} {x4 : Int} (h : Bys w v l) (hT : Ty w b 31) : Bys (setV w b x0 x1 x2 s x4) v l :=
  ((((h.setB hT (by decide) _ _).setB (hT.set _ _ _) (by decide) _ _).setB ((hT.set _ _ _).set _ _ _) (by decide) _ _).setB (((hT.set _ _ _).set _ _ _).set _ _ _) (by decide) _ _).setB ((((hT.set _ _ _).set _ _ _).set _ _ _).set _ _ _) (by decide) _ _
theorem setV_below {w0 w : World} {b : Nat} {x0 x1 x2 : Int} {s : ByteArray} {x4 : Int} (h : Below w0.heap.size w0 w) (hb : w0.heap.size ≤ b) : Below w0.heap.size w0 (setV w b x0 x1 x2 s x4) :=
  ((((h.setCell (p := ⟨b, 0, none⟩) hb _).setCell (p := ⟨b, 1, none⟩) hb _).setCell (p := ⟨b, 2, none⟩) hb _).setCell (p := ⟨b, 3, none⟩) hb _).setCell (p := ⟨b, 4, none⟩) hb _
theorem setV_size {w : World} {b : Nat} {x0 x1 x2 : Int} {s : ByteArray} {x4 : Int} : (setV w b x0 x1 x2 s x4).heap.size = w.heap.size := by simp [setV, World.setCell]
theorem Qu.farQ {w w1 : World} {g g1 : Nat} {v v1 : Value} {l l1 : List Int} (h : Qu w g v l) (hk : KeepQ w w1 g1 v1.ownBlock) (hq : Qu w g1 v1 l1) (hg : g ≠ g1) (hd : ∀ k, v.ownBlock = some k → v1.ownBlock ≠ some k) : Qu w1 g v l :=
  h.keep hk hg (fun e => absurd ((h.row.tyo e.symm).eq hq.ty) (by decide)) (fun e => absurd ((hq.row.tyo e.symm).eq h.ty) (by decide)) (fun k hk' e => hd k hk' e.symm)
theorem own_apart {w : World} {v v1 v1' : Value} {l : List Int} (hs : Since w v1 v1') (hr : Bys w v l) (hd : ∀ k, v.ownBlock = some k → v1.ownBlock ≠ some k) : ∀ k, v.ownBlock = some k → v1'.ownBlock ≠ some k := by
  intro k hk e
  rcases hs with hs | ⟨b, hs, hb⟩
  · exact hd k hk (hs ▸ e)
  · rw [hs] at e
    injection e with e
    have := hr.lt k hk
    omega
theorem own_apart2 {w : World} {v v1 v1' : Value} {l : List Int} (hs : Since w v1 v1') (hr : Bys w v l) (hd : ∀ k, v1.ownBlock = some k → v.ownBlock ≠ some k) : ∀ k, v1'.ownBlock = some k → v.ownBlock ≠ some k := by
  intro k hk e
  exact own_apart hs hr (fun k h1 h2 => hd k h2 h1) k e hk
theorem KeepQ.blkT {w w1 : World} {g b : Nat} {v : Value} {l : List Int} {t : TypeId} {cs : Array Value} (hk : KeepQ w w1 g v.ownBlock) (hq : Qu w g v l) (hb : w.heap[b]? = some (.cells cs t (0, 0))) (h1 : t ≠ 53) (h2 : t ≠ 5) : w1.heap[b]? = some (.cells cs t (0, 0)) :=
  (hk.block b (blk_lt hb) (fun e => by subst e; exact h1 ((Ty.of hb).eq hq.ty)) (fun e => h2 ((Ty.of hb).eq (hq.row.tyo e.symm)))).trans hb
theorem LDone.blkT {N : Nat} {w w1 : World} {g b : Nat} {s s' : Option (List Int)} {t : TypeId} {cs : Array Value} (hk : LDone N w g s' w1) (hL : Le N w g s) (hb : w.heap[b]? = some (.cells cs t (0, 0))) (h1 : t ≠ 59) : w1.heap[b]? = some (.cells cs t (0, 0)) :=
  hk.blk hb (fun e => by subst e; exact h1 ((Ty.of hb).eq hL.ty))
/-- A row of two rows of bytes, laid as a literal. -/
theorem lit2 {W : World} {A1 A2 : Option Addr} {c1 c2 : Nat} {x y : List Int} (h1 : Bys W (.slice A1 x.length c1) x) (h2 : Bys W (.slice A2 y.length c2) y) :
    Kd.C (Kd.slice 5 (Kd.int .u8)) (W.alloc (.cells #[.slice A1 x.length c1, .slice A2 y.length c2] 22 (0, 0))) (some ⟨W.heap.size, 0, none⟩) 2 [x, y] := by
  have hb := blk_new W (.cells #[.slice A1 x.length c1, .slice A2 y.length c2] 22 (0, 0))
  refine ⟨rfl, by decide, fun _ => ⟨_, rfl, fun j p hj => ?_⟩⟩
  match j, hj with
  | 0, hj =>
    injection hj with hj
    subst hj
    refine ⟨[.slice A1 x.length c1], rfl, ⟨A1, c1, rfl, h1.rd.2, Kd.C_alloc h1.rd.1 _⟩, fun i u hi => ?_⟩
    match i, hi with
    | 0, hi =>
      injection hi with hi
      subst hi
      exact blk_cell hb 0
  | 1, hj =>
    injection hj with hj
    subst hj
    refine ⟨[.slice A2 y.length c2], rfl, ⟨A2, c2, rfl, h2.rd.2, Kd.C_alloc h2.rd.1 _⟩, fun i u hi => ?_⟩
    match i, hi with
    | 0, hi =>
      injection hi with hi
      subst hi
      exact blk_cell hb 1
theorem nlay_len8 (n mk : Nat) : (nlay n mk).length = nsz n + 1 := by rw [nlay, List.length_cons, nby_len]
theorem Bys.len {w : World} {A : Option Addr} {n c : Nat} {l : List Int} (h : Bys w (.slice A n c) l) : n = l.length := by
  obtain ⟨A', c', e, _⟩ := h.slice
  injection e
theorem lit2n {W : World} {A1 A2 : Option Addr} {n1 n2 c1 c2 : Nat} {x y : List Int} (h1 : Bys W (.slice A1 n1 c1) x) (h2 : Bys W (.slice A2 n2 c2) y) :
    Kd.C (Kd.slice 5 (Kd.int .u8)) (W.alloc (.cells #[.slice A1 n1 c1, .slice A2 n2 c2] 22 (0, 0))) (some ⟨W.heap.size, 0, none⟩) 2 [x, y] := by
  have e1 := h1.len
  have e2 := h2.len
  subst e1 e2
  exact lit2 h1 h2
theorem lit2C {W : World} {A1 A2 : Option Addr} {n1 n2 c1 c2 : Nat} {x y : List Int} (h1 : Kd.C (Kd.int .u8) W A1 x.length x) (hc1 : x.length ≤ c1) (e1 : n1 = x.length) (h2 : Kd.C (Kd.int .u8) W A2 y.length y) (hc2 : y.length ≤ c2) (e2 : n2 = y.length) :
    Kd.C (Kd.slice 5 (Kd.int .u8)) (W.alloc (.cells #[.slice A1 n1 c1, .slice A2 n2 c2] 22 (0, 0))) (some ⟨W.heap.size, 0, none⟩) 2 [x, y] := by
  subst e1 e2
  have hb := blk_new W (.cells #[.slice A1 x.length c1, .slice A2 y.length c2] 22 (0, 0))
  refine ⟨rfl, by decide, fun _ => ⟨_, rfl, fun j p hj => ?_⟩⟩
  match j, hj with
  | 0, hj =>
    injection hj with hj
    subst hj
    refine ⟨[.slice A1 x.length c1], rfl, ⟨A1, c1, rfl, hc1, Kd.C_alloc h1 _⟩, fun i u hi => ?_⟩
    match i, hi with
    | 0, hi =>
      injection hi with hi
      subst hi
      exact blk_cell hb 0
  | 1, hj =>
    injection hj with hj
    subst hj
    refine ⟨[.slice A2 y.length c2], rfl, ⟨A2, c2, rfl, hc2, Kd.C_alloc h2 _⟩, fun i u hi => ?_⟩
    match i, hi with
    | 0, hi =>
      injection hi with hi
      subst hi
      exact blk_cell hb 1

end Go.Proofs.YtdojgjbiilnjpaaDoor.M
