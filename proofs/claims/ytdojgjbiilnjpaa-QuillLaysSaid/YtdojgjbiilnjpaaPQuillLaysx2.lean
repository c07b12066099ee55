-- Printed by a wrapper of this session's round the kit's print.py; Lean checks it.
import Derived.Test.YtdojgjbiilnjpaaPQuillLaysx0
import Derived.Test.YtdojgjbiilnjpaaPQuillLaysx1
namespace Go.Proofs.Ytdojgjbiilnjpaa.PQuillLays
open Go.RowKit Go.Proofs.YtdojgjbiilnjpaaW.PrintWords Go.Proofs.YtdojgjbiilnjpaaW.PrintLast Go.Proofs.YtdojgjbiilnjpaaW.PrintMore
attribute [local go_sem] max2_int min2_int max_two min_two max_three min_three max_four min_four   -- for this text's walks alone
set_option linter.unusedVariables false
set_option linter.unusedSimpArgs false

/-! ### arrearslaw08_QuillLays: function 6 -/
section
open Go.Proofs.Ytdojgjbiilnjpaa.M
/-- A row of values, all of it in blocks below N. -/
def VR (N : Nat) (w : World) (v : Value) (l : List S40) : Prop := Kd.R k40 40 w 0 (fun k => k < N) v l
theorem VR.of {w : World} {base : Nat} {ok : Nat → Prop} {v : Value} {l : List S40} (h : Kd.R k40 40 w base ok v l) : VR w.heap.size w v l := Kd.R_lower (Kd.R_mono (Kd.R_bound h) (fun _ hk => hk.2.2.1)) (Nat.zero_le _)
theorem VR.mono {N N1 : Nat} {w : World} {v : Value} {l : List S40} (h : VR N w v l) (hN : N ≤ N1) : VR N1 w v l := Kd.R_mono h (fun _ hk => Nat.lt_of_lt_of_le hk hN)
theorem VR.below {N : Nat} {w w1 : World} {v : Value} {l : List S40} (h : VR N w v l) (hb : Below w.heap.size w w1) : VR N w1 v l := Kd.R_below h hb
theorem VR.set {N : Nat} {w : World} {v : Value} {l : List S40} (h : VR N w v l) {b : Nat} (hb : N ≤ b) (o : Nat) (u : Value) : VR N (w.setCell ⟨b, o, none⟩ u) v l := Kd.R_far (p := ⟨b, o, none⟩) h (fun k hk => by show k ≠ b; omega) u
theorem VR.keep {N : Nat} {w w1 : World} {g : Nat} {row : Option Nat} {v : Value} {l : List S40} (h : VR N w v l) (hk : KeepQ w w1 g row) {t : TypeId} (hg : Ty w g t) (ht : t ≠ 40) (hr : ∀ k, row = some k → Ty w k 5) : VR N w1 v l := by
  refine Kd.R_mono (Kd.R_step (Kd.R_bound h) (fun k ho hlt => ?_)) (fun _ hk => hk.1)
  obtain ⟨_, _, _, q, hq, cells, hc⟩ := ho
  have hq2 : q = 40 := by simpa [k40, Kd.iso, Kd.pair, Kd.int, Kd.string, Kd.scalar] using hq
  subst hq2
  exact hk.block k hlt (fun e => by subst e; exact hg.ne ht cells hc) (fun e => (hr k e.symm).ne (by decide) cells hc)
theorem Bys.ty {w : World} {v : Value} {l : List Int} (h : Bys w v l) : ∀ k, v.ownBlock = some k → Ty w k 5 := fun k hk => h.typed k hk
theorem VR.at_ {N : Nat} {w : World} {A : Option Addr} {c : Nat} {l : List S40} (h : VR N w (.slice A l.length c) l) : Kd.C k40 w A l.length l := (Kd.R_reads' h).2.2
theorem VR.slice {N : Nat} {w : World} {v : Value} {l : List S40} (h : VR N w v l) : ∃ A c, v = .slice A l.length c := Kd.R_slice h
theorem setV_VR {N : Nat} {w : World} {b : Nat} {v : Value} {l : List S40} {x0 x1 x2 : Int} {s : ByteArray} {x4 : Int} (h : VR N w v l) (hb : N ≤ b) : VR N (setV w b x0 x1 x2 s x4) v l :=
  ((((h.set hb _ _).set hb _ _).set hb _ _).set hb _ _).set hb _ _
theorem VR.farL {N M : Nat} {w w1 : World} {g4 : Nat} {v : Value} {l : List S40} {s s' : Option (List Int)} (h : VR N w v l) (hd : LDone M w g4 s' w1) (hL : Le M w g4 s) : VR N w1 v l := h.keep hd.2 hL.ty (by decide) (fun k e => by cases e)
theorem VR.farQ {N : Nat} {w w1 : World} {g : Nat} {vq v : Value} {lq : List Int} {l : List S40} (h : VR N w v l) (hk : KeepQ w w1 g vq.ownBlock) (hq : Qu w g vq lq) : VR N w1 v l := h.keep hk hq.ty (by decide) (fun k e => hq.row.tyo e)
theorem eqV8 (d : Nat) (w : World) (x0 y0 : Int) (x1 y1 : Int) (x2 y2 : Int) (x3 y3 : ByteArray) (x4 y4 : Int) :
    (Op.equalIn (d + 2) 40 (.agg #[.int .u8 x0, .int .u64 x1, .int .i64 x2, .string x3, .int .u64 x4]) (.agg #[.int .u8 y0, .int .u64 y1, .int .i64 y2, .string y3, .int .u64 y4])).run Try.prog w = .ok (x0 == y0 && (x1 == y1 && (x2 == y2 && (x3.toList == y3.toList && (x4 == y4))))) w := by
  refine eqA_of Try.underlying40 (by kernel_rfl) ?_
  refine eqf_cons (by rfl) (by go_simp; rfl) (by go_simp; rfl) (by go_simp) ?_
  refine eqf_cons (by rfl) (by go_simp; rfl) (by go_simp; rfl) (by go_simp) ?_
  refine eqf_cons (by rfl) (by go_simp; rfl) (by go_simp; rfl) (by go_simp) ?_
  refine eqf_cons (by rfl) (by go_simp; rfl) (by go_simp; rfl) (by go_simp) ?_
  exact eqf_last (by rfl) (by go_simp; rfl) (by go_simp; rfl) (by go_simp)
attribute [local go_sem high] eqV8
def VIn (v : S40) : Prop := (0 ≤ v.f0 ∧ v.f0 ≤ 255) ∧ (0 ≤ v.f1 ∧ v.f1 ≤ 18446744073709551615) ∧ (-9223372036854775808 ≤ v.f2 ∧ v.f2 ≤ 9223372036854775807) ∧ v.f3.size ≤ 100000
instance (v : S40) : Decidable (VIn v) := by unfold VIn; infer_instance
/-- All is laid, by the program and by the document. -/
def arrearslaw08_QuillLays.go1 (k : Nat) : List S40 → List Int → List Int → Option (List Int × List Int)
  | [], q, want => some (q, want)
  | v :: r, q, want => if VIn v ∧ q.length ≤ 400000 then (arrearsref08_Lay.f k v.f0 v.f1 v.f2 v.f3 v.f4).bind fun y => (arrearsref01_Join.f k [want, y]).bind fun z => arrearslaw08_QuillLays.go1 k r (q ++ qlay v.f0 v.f1 v.f2 v.f3) z else none
/-- The most that is asked of a value. -/
def most8 (f0 : Int) : Int := if f0 % 4 = 3 then 40 else 18446744073709551615
/-- All is read again, by both. -/
def arrearslaw08_QuillLays.go2 : List S40 → Option (List Int) → List Int → Option (Option (List Int))
  | [], st, _ => some st
  | v :: r, st, want => if (0 ≤ v.f0 ∧ v.f0 ≤ 255) ∧ want.length ≤ 1000000 ∧ (want.all fun x => decide (0 ≤ x ∧ x ≤ 255)) = true then
      (match rtake want v.f0 (most8 v.f0) with
      | some (T, rest) => if (qtake st v.f0 (most8 v.f0)).1 = T ∧ lrest (qtake st v.f0 (most8 v.f0)).2 = (rest.length : Int) then arrearslaw08_QuillLays.go2 r (qtake st v.f0 (most8 v.f0)).2 rest else none
      | none => none) else none
def arrearslaw08_QuillLays.f (k : Nat) (l0 : List S40) : Option Bool :=
  (arrearslaw08_few.f k l0).bind fun l => (arrearslaw08_QuillLays.go1 k l [] []).bind fun qw =>
    if l.length ≤ 1000000 ∧ qw.1.length ≤ 900000 ∧ (qw.1.all fun x => decide (0 ≤ x ∧ x ≤ 255)) = true ∧ arrearsref01_Same.f k qw.1 qw.2 = some true then
      (arrearslaw08_QuillLays.go2 l (some qw.1) qw.2).bind fun st => if lend st = true then some true else none
    else none
theorem setV_ne {w : World} {b c : Nat} {x0 x1 x2 : Int} {s : ByteArray} {x4 : Int} (h : c ≠ b) : (setV w b x0 x1 x2 s x4).heap[c]? = w.heap[c]? := by
  have k := fun (w : World) (o : Nat) (u : Value) => Below.heap_setCell w ⟨b, o, none⟩ u c h
  unfold setV
  rw [k, k, k, k, k]
theorem rd_drop8 (l : List S40) (i : Int) (h0 : 0 ≤ i) (h1 : i < l.length) : l.drop i.toNat = rd_T40 l i :: l.drop (i + 1).toNat := by
  have h : i.toNat < l.length := by omega
  rw [List.drop_eq_getElem_cons h, show (i + 1).toNat = i.toNat + 1 by omega]
  congr 1
  simp [rd_T40, List.getD_eq_getElem?_getD, List.getElem?_eq_getElem h]
set_option maxHeartbeats 8000000 in
set_option maxRecDepth 100000 in
theorem arrearslaw08_QuillLays.calls (k : Nat) (A0 : Option Addr) (c0 : Nat) (l0 : List S40) (r : Bool) (w : World) (hr0 : Kd.C k40 w A0 l0.length l0) (hc0 : l0.length ≤ c0) (h : arrearslaw08_QuillLays.f k l0 = some r) (hr : r = true) :
    Calls Try.prog 6 #[.slice A0 l0.length c0] w fun e w' => e = .returned (.bool r) ∧ Below w.heap.size w w' := by
  subst hr
  obtain ⟨la, hla, h⟩ := Option.bind_eq_some_iff.mp h
  obtain ⟨⟨Q, WT⟩, hgo, h⟩ := Option.bind_eq_some_iff.mp h
  by_cases hg : la.length ≤ 1000000 ∧ Q.length ≤ 900000 ∧ (Q.all fun x => decide (0 ≤ x ∧ x ≤ 255)) = true ∧ arrearsref01_Same.f k Q WT = some true
  · rw [if_pos hg] at h
    obtain ⟨ST, hgo2, h⟩ := Option.bind_eq_some_iff.mp h
    have hend : lend ST = true := by
      by_cases c : lend ST = true
      · exact c
      · rw [if_neg c] at h; cases h
    have HLA := Aside0.mk hla
    have HGO := Aside0.mk hgo
    have HGO2 := Aside0.mk hgo2
    have HG := Aside0.mk hg
    have HEND := Aside0.mk hend
    have HR0 := Aside0.mk hr0
    have HC0 := Aside0.mk hc0
    have HB := Aside0.mk (Below.refl w.heap.size w)
    clear hla hgo hgo2 hg hend hr0 hc0 h
    go_enter Try.func6, Try.ntmps6
    go_wp2_with (first
      | (go_at_call 7; refine (arrearslaw08_awake.calls true w rfl).mono ?_; rintro e w1 ⟨rfl, hb⟩; have n_ := Aside0.mk hb; clear HB; have HB := n_; clear n_; clear hb)
      | (go_at_call 14; (with_reducible refine (arrearslaw08_few.calls k A0 c0 l0 la w1 (Kd.C_below HR0.out HB.out) HC0.out HLA.out).mono ?_); rintro e w2 ⟨v2, rfl, ho, hb⟩; obtain ⟨A3, c3, e3⟩ := (VR.of ho).slice; generalize hL3 : la.length = L3 at e3; subst e3; have HL3 := Aside0.mk hL3; have HVA := Aside0.mk (VR.of ho); have n_ := Aside0.mk (below_step HB.out hb); clear HB; have HB := n_; clear n_; clear ho hb hL3)
      | ((with_reducible refine gate_dst (N := 3) rfl ?_); refine box_event ?hg (N := 3) ?hd (cs := #[.slice none 0 0]) (t := 26) ?hr ?_; (case hd => rfl); (case hg => rfl); (case hr => first | (go_simp; done) | (go_simp; rfl)); intro gb3 hg w5 hbox hb; have HQ := Aside0.mk (Qu.new (w := w) hbox); have GE3 := Aside0.mk (show w.heap.size ≤ gb3 by have := HB.out.size; omega); have n_ := Aside0.mk ((HVA.out.below hb).mono hb.size); clear HVA; have HVA := n_; clear n_; have n_ := Aside0.mk (below_step HB.out hb); clear HB; have HB := n_; clear n_; have GEW := Aside0.mk HB.out.size; clear hbox hb hg))
    go_loopg [4, 21] L3 (fun gg v4 v21 wr => ∃ (i : Int) (q wt : List Int) (vq : Value), v21 = .int .i64 i ∧ Aside0 (arrearslaw08_QuillLays.go1 k (la.drop i.toNat) q wt = some (Q, WT)) ∧ Aside0 (0 ≤ i ∧ i ≤ (L3 : Int) ∧ L3 - i.toNat ≤ gg) ∧ Aside0 (Qu wr gb3 vq q) ∧ Aside0 (∀ k, vq.ownBlock = some k → w.heap.size ≤ k) ∧ Aside0 (Bys wr v4 wt) ∧ Aside0 (∀ k, v4.ownBlock = some k → vq.ownBlock ≠ some k) ∧ Aside0 (VR w5.heap.size wr (.slice A3 L3 c3) la) ∧ Aside0 (Below w.heap.size w wr) ∧ Aside0 (w5.heap.size ≤ wr.heap.size))
    case atStart => exact ⟨0, [], [], .slice none 0 0, rfl, ⟨HGO.out⟩, ⟨by omega, by omega, by omega⟩, HQ, ⟨nil_own _⟩, ⟨Bys.nil _⟩, ⟨fun k e => by simp [Value.ownBlock] at e⟩, HVA, HB, ⟨Nat.le_refl _⟩⟩
    case round =>
      obtain ⟨i, q, wt, vq, rfl, HA, HI, HQ, HO, HW, D1, HVA, HB, HSZ⟩ := hrel
      have hi0 : 0 ≤ i := HI.out.1
      obtain ⟨A4, c4, ew, _, _⟩ := HW.out.slice
      generalize hlw : wt.length = Lw at ew
      subst ew
      have HLW := Aside0.mk hlw
      clear hlw
      by_cases hlt : i < (L3 : Int)
      · have hdr := rd_drop8 la i hi0 (by have := HL3.out; omega)
        have hH := HA.out
        rw [hdr] at hH
        obtain ⟨ad, ead, hx0, hx1, hx2, hx3, hx4⟩ := at_T40 (by have h3 := HVA.out; rw [← HL3.out] at h3; exact h3.at_) i hi0 (by have := HL3.out; omega)
        subst ead
        generalize rd_T40 la i = x at hH hx0 hx1 hx2 hx3 hx4
        obtain ⟨f0, f1, f2, f3, f4⟩ := x
        rw [arrearslaw08_QuillLays.go1] at hH
        split at hH
        · rename_i hgd
          obtain ⟨y, hy, hH⟩ := Option.bind_eq_some_iff.mp hH
          obtain ⟨z, hz, hH⟩ := Option.bind_eq_some_iff.mp hH
          have HY := Aside0.mk (show arrearsref08_Lay.f k f0 f1 f2 f3 f4 = some y from hy)
          have HZ := Aside0.mk hz
          have HH := Aside0.mk hH
          have hgd1 : (0 ≤ f0 ∧ f0 ≤ 255) ∧ (0 ≤ f1 ∧ f1 ≤ 18446744073709551615) ∧ (-9223372036854775808 ≤ f2 ∧ f2 ≤ 9223372036854775807) ∧ f3.size ≤ 100000 := hgd.1
          have HGD := Aside0.mk (And.intro hgd1 hgd.2)
          have hi1 := Aside0.mk (show wrap64 (i + 1) = i + 1 by have := HG.out.1; have := HL3.out; unfold wrap64; omega)
          clear hy hz hH hgd hgd1 HA hdr
          go_upto_region 9 with (first | ((with_reducible refine gate_dst (N := 6) rfl ?_); (try (refine gate_guard (by rfl) ?_; dsimp only)); refine box_event ?hg (N := 6) ?hd (cs := #[.int .u8 0, .int .u64 0, .int .i64 0, .string (⟨#[]⟩ : ByteArray), .int .u64 0]) (t := 40) ?hr ?_; (case hd => rfl); (case hg => rfl); (case hr => first | (go_simp; done) | (go_simp; rfl)); intro gb6 hg wb hbox hb; have BK := Aside0.mk hbox; have GEB := Aside0.mk (Nat.le_of_eq hg.symm : wr.heap.size ≤ gb6); have n_ := Aside0.mk (HQ.out.below hb); clear HQ; have HQ := n_; clear n_; have n_ := Aside0.mk (HW.out.below hb); clear HW; have HW := n_; clear n_; have n_ := Aside0.mk (HVA.out.below hb); clear HVA; have HVA := n_; clear n_; have n_ := Aside0.mk (below_step HB.out hb); clear HB; have HB := n_; clear n_; have hcz_0 : wb.cell? ⟨gb6, 0, none⟩ = some (.int .u8 0) := blk_cell hbox 0; have hfz_0 := blk_frozen hbox 0; have hcz_1 : wb.cell? ⟨gb6, 1, none⟩ = some (.int .u64 0) := blk_cell hbox 1; have hfz_1 := blk_frozen hbox 1; have hcz_2 : wb.cell? ⟨gb6, 2, none⟩ = some (.int .i64 0) := blk_cell hbox 2; have hfz_2 := blk_frozen hbox 2; have hcz_3 : wb.cell? ⟨gb6, 3, none⟩ = some (.string (⟨#[]⟩ : ByteArray)) := blk_cell hbox 3; have hfz_3 := blk_frozen hbox 3; have hcz_4 : wb.cell? ⟨gb6, 4, none⟩ = some (.int .u64 0) := blk_cell hbox 4; have hfz_4 := blk_frozen hbox 4; clear hx0 hx1 hx2 hx3 hx4; clear hbox hb hg))
          change Code.wp _ _ _ _ (setV wb gb6 f0 f1 f2 f3 f4)
          have hT9 : Ty wb gb6 40 := Ty.of BK.out
          have HQ_ := Aside0.mk (setV_Qu (x0 := f0) (x1 := f1) (x2 := f2) (s := f3) (x4 := f4) HQ.out hT9)
          have HW_ := Aside0.mk (setV_Bys (x0 := f0) (x1 := f1) (x2 := f2) (s := f3) (x4 := f4) HW.out hT9)
          have HVA_ := Aside0.mk (setV_VR (x0 := f0) (x1 := f1) (x2 := f2) (s := f3) (x4 := f4) HVA.out (Nat.le_trans HSZ.out GEB.out))
          have HB_ := Aside0.mk (setV_below (x0 := f0) (x1 := f1) (x2 := f2) (s := f3) (x4 := f4) HB.out (Nat.le_trans GEW.out (Nat.le_trans HSZ.out GEB.out)))
          have hbk := setV_blk (x0 := f0) (x1 := f1) (x2 := f2) (s := f3) (x4 := f4) BK.out
          have HSZ_ := Aside0.mk (show w5.heap.size ≤ (setV wb gb6 f0 f1 f2 f3 f4).heap.size by rw [setV_size]; have := blk_lt BK.out; have := GEB.out; have := HSZ.out; omega)
          have HGB := Aside0.mk (show w5.heap.size ≤ gb6 by have := GEB.out; have := HSZ.out; omega)
          clear HQ HW HVA HB HSZ BK GEB hT9 hcz_0 hfz_0 hcz_1 hfz_1 hcz_2 hfz_2 hcz_3 hfz_3 hcz_4 hfz_4
          generalize setV wb gb6 f0 f1 f2 f3 f4 = W at HQ_ HW_ HVA_ HB_ HSZ_ hbk
          have HQ := HQ_
          clear HQ_
          have HW := HW_
          clear HW_
          have HVA := HVA_
          clear HVA_
          have HB := HB_
          clear HB_
          have HSZ := HSZ_
          clear HSZ_
          have hcw_0 : W.cell? ⟨gb6, 0, none⟩ = some (.int .u8 f0) := blk_cell hbk 0
          have hcw_1 : W.cell? ⟨gb6, 1, none⟩ = some (.int .u64 f1) := blk_cell hbk 1
          have hcw_2 : W.cell? ⟨gb6, 2, none⟩ = some (.int .i64 f2) := blk_cell hbk 2
          have hcw_3 : W.cell? ⟨gb6, 3, none⟩ = some (.string f3) := blk_cell hbk 3
          have hcw_4 : W.cell? ⟨gb6, 4, none⟩ = some (.int .u64 f4) := blk_cell hbk 4
          have HBK := Aside0.mk hbk
          clear hbk
          go_wp2_with (first
            | (go_at_call 16; (with_reducible refine (law_lay f0 f1 f2 f4 f3 HGD.out.1.1.1 HGD.out.1.1.2 HGD.out.1.2.1.1 HGD.out.1.2.1.2 HGD.out.1.2.2.1.1 HGD.out.1.2.2.1.2 HGD.out.1.2.2.2 gb3 vq q W ?hlen HQ.out).mono ?_); (case hlen => have := HGD.out.2; omega); rintro e wA ⟨rfl, hd⟩; obtain ⟨vA, hq, hvb, hbb, hkq, hsi⟩ := QDone.law (w0 := w) hd HB.out GE3.out HO.out; have D1o := D1; have nd_ := Aside0.mk (own_apart hsi HW.out D1.out); clear D1; have D1 := nd_; clear nd_; have n_ := Aside0.mk (HW.out.keepQ hkq HQ.out (fun k h1 e => D1o.out k h1 e)); clear HW; have HW := n_; clear n_; have n_ := Aside0.mk (HVA.out.farQ hkq HQ.out); clear HVA; have HVA := n_; clear n_; have n_ := Aside0.mk (hkq.blkT HQ.out HBK.out (by decide) (by decide)); clear HBK; have HBK := n_; clear n_; have n_ := Aside0.mk (Nat.le_trans HSZ.out hkq.size); clear HSZ; have HSZ := n_; clear n_; clear HQ; have HQ := Aside0.mk hq; clear HO; have HO := Aside0.mk hvb; have n_ := Aside0.mk hbb; clear HB; have HB := n_; clear n_; clear hcw_0 hcw_1 hcw_2 hcw_3 hcw_4; have hcw_0 : wA.cell? ⟨gb6, 0, none⟩ = some (.int .u8 f0) := blk_cell HBK.out 0; have hcw_1 : wA.cell? ⟨gb6, 1, none⟩ = some (.int .u64 f1) := blk_cell HBK.out 1; have hcw_2 : wA.cell? ⟨gb6, 2, none⟩ = some (.int .i64 f2) := blk_cell HBK.out 2; have hcw_3 : wA.cell? ⟨gb6, 3, none⟩ = some (.string f3) := blk_cell HBK.out 3; have hcw_4 : wA.cell? ⟨gb6, 4, none⟩ = some (.int .u64 f4) := blk_cell HBK.out 4; clear hd hq hvb hbb hkq hsi)
            | (go_at_call 23; (with_reducible refine (arrearsref08_Lay.calls k f0 f1 f2 f3 f4 y wA HY.out).mono ?_); rintro e wC ⟨vC, rfl, ho, hb⟩; obtain ⟨AC, cC, eC, _, _⟩ := (Bys.ofR ho).slice; generalize hlc : y.length = Lc at eC; subst eC; have HLC := Aside0.mk hlc; have HYC := Aside0.mk (Bys.ofR ho); have n_ := Aside0.mk (HQ.out.below hb); clear HQ; have HQ := n_; clear n_; have n_ := Aside0.mk (HW.out.below hb); clear HW; have HW := n_; clear n_; have n_ := Aside0.mk (HVA.out.below hb); clear HVA; have HVA := n_; clear n_; have n_ := Aside0.mk (Nat.le_trans HSZ.out hb.size); clear HSZ; have HSZ := n_; clear n_; have n_ := Aside0.mk (below_step HB.out hb); clear HB; have HB := n_; clear n_; clear hcw_0 hcw_1 hcw_2 hcw_3 hcw_4; clear ho hb hlc HBK)
            | (go_at_call 18; refine calls_of_args (args' := #[.slice (some ⟨wC.heap.size, 0, none⟩) [wt, y].length 2]) rfl ((arrearsref01_Join.calls k _ 2 [wt, y] z _ (lit2n (W := wC) HW.out HYC.out) (by simp) HZ.out).mono ?_); rintro e wD ⟨vD, rfl, ho, hb⟩; have bel_ := below_step (below_alloc (Below.refl wC.heap.size wC) (.cells #[.slice A4 Lw c4, .slice AC Lc cC] 24)) hb; have HW2 := Aside0.mk (Bys.ofR ho); have D2 := Aside0.mk (show ∀ k, vD.ownBlock = some k → vA.ownBlock ≠ some k from fun k h1 h2 => by have h3 := Kd.R_base ho k h1; have h4 := HQ.out.row.lt k h2; have h5 : (wC.alloc (.cells #[.slice A4 Lw c4, .slice AC Lc cC] 24)).heap.size = wC.heap.size + 1 := (by simp); omega); have n_ := Aside0.mk (HQ.out.below bel_); clear HQ; have HQ := n_; clear n_; have n_ := Aside0.mk (HVA.out.below bel_); clear HVA; have HVA := n_; clear n_; have n_ := Aside0.mk (Nat.le_trans HSZ.out bel_.size); clear HSZ; have HSZ := n_; clear n_; have n_ := Aside0.mk (below_step HB.out bel_); clear HB; have HB := n_; clear n_; clear ho hb bel_))
          go_roundg (gk - 1)
          case measure => have := HI.out.2.2; omega
          case rel => exact ⟨i + 1, q ++ qlay f0 f1 f2 f3, z, vA, by first | rfl | rw [hi1.out], HH, ⟨by have := HI.out; omega, by have := HI.out; omega, by have := HI.out; omega⟩, HQ, HO, HW2, D2, HVA, HB, HSZ⟩
        · exact absurd hH (by simp)
      · have hH := HA.out
        rw [List.drop_of_length_le (by have := HL3.out; omega)] at hH
        simp only [arrearslaw08_QuillLays.go1, Option.some.injEq, Prod.mk.injEq] at hH
        obtain ⟨hH1, hH2⟩ := hH
        replace hH1 := hH1.symm
        replace hH2 := hH2.symm
        subst hH1 hH2
        clear HA HI
        go_wp2_with (first
          | (go_at_call 9; (with_reducible refine (quill_Done gb3 vq Q wr ?hlen HQ.out).mono ?_); (case hlen => have := HG.out.2.1; omega); rintro e w33 ⟨v33, rfl, h1, h2, h3⟩; obtain ⟨A7, c7, e_, _, _⟩ := h1.slice; generalize hn_ : Q.length = n7 at e_; subst e_; have HN7 := Aside0.mk hn_; clear hn_; have HP := Aside0.mk h1; have n_ := Aside0.mk (HW.out.below h3); clear HW; have HW := n_; clear n_; have n_ := Aside0.mk (HVA.out.below h3); clear HVA; have HVA := n_; clear n_; have n_ := Aside0.mk (Nat.le_trans HSZ.out h3.size); clear HSZ; have HSZ := n_; clear n_; have n_ := Aside0.mk (below_step HB.out h3); clear HB; have HB := n_; clear n_; clear h1 h2 h3)
          | (go_at_call 17; (with_reducible refine calls_of_args (args' := #[.slice A7 Q.length c7, .slice A4 WT.length c4]) (by rw [HN7.out, HLW.out]) ((arrearsref01_Same.calls k A7 c7 Q A4 c4 WT true w33 (by have h_ := HP.out; rw [← HN7.out] at h_; exact h_.rd.1) (by have h_ := HP.out; rw [← HN7.out] at h_; exact h_.rd.2) (by have h_ := HW.out; rw [← HLW.out] at h_; exact h_.rd.1) (by have h_ := HW.out; rw [← HLW.out] at h_; exact h_.rd.2) HG.out.2.2.2).mono ?_)); rintro e w36 ⟨rfl, hdr⟩; have n_ := Aside0.mk (HP.out.below hdr.below); clear HP; have HP := n_; clear n_; have n_ := Aside0.mk (HW.out.below hdr.below); clear HW; have HW := n_; clear n_; have n_ := Aside0.mk (HVA.out.below hdr.below); clear HVA; have HVA := n_; clear n_; have n_ := Aside0.mk (Nat.le_trans HSZ.out hdr.below.size); clear HSZ; have HSZ := n_; clear n_; have n_ := Aside0.mk (below_step HB.out hdr.below); clear HB; have HB := n_; clear n_; clear hdr)
          | (go_at_call 11; (with_reducible refine (quill_Look _ Q w36 HP.out ?hlen ?hrng).mono ?_); (case hlen => have := HG.out.2.1; omega); (case hrng => exact all_rng HG.out.2.2.1); rintro e w39 ⟨g8, rfl, h1, h2, h3⟩; have HL := Aside0.mk h2; have G8 := Aside0.mk (show w.heap.size ≤ g8 by have := HB.out.size; omega); have G8S := Aside0.mk (show g8 < w39.heap.size from h2.lt); have n_ := Aside0.mk (HW.out.below h3); clear HW; have HW := n_; clear n_; have n_ := Aside0.mk ((HVA.out.below h3).mono (Nat.le_trans HSZ.out h3.size)); clear HVA; have HVA := n_; clear n_; have n_ := Aside0.mk (below_step HB.out h3); clear HB; have HB := n_; clear n_; clear HSZ h1 h2 h3))
        have HRW : Aside0 (RowB w39.heap.size w39 A4 WT) := ⟨by have h_ := HW.out; rw [← HLW.out] at h_; exact RowB.of h_⟩
        have HLC0 : Aside0 (WT.length ≤ c4) := ⟨by have h_ := HW.out; rw [← HLW.out] at h_; exact h_.rd.2⟩
        have GEW2 := Aside0.mk HB.out.size
        go_loopg [4, 42] L3 (fun gg v4 v42 wr => ∃ (i : Int) (st : Option (List Int)) (wt : List Int) (A : Option Addr) (n c : Nat), v42 = .int .i64 i ∧ v4 = .slice A n c ∧ Aside0 (n = wt.length) ∧ Aside0 (arrearslaw08_QuillLays.go2 (la.drop i.toNat) st wt = some ST) ∧ Aside0 (0 ≤ i ∧ i ≤ (L3 : Int) ∧ L3 - i.toNat ≤ gg) ∧ Aside0 (Le g8 wr g8 st) ∧ Aside0 (RowB w39.heap.size wr A wt ∧ wt.length ≤ c) ∧ Aside0 (VR w39.heap.size wr (.slice A3 L3 c3) la) ∧ Aside0 (Below w.heap.size w wr) ∧ Aside0 (w39.heap.size ≤ wr.heap.size))
        case atStart => exact ⟨0, some Q, WT, A4, Lw, c4, rfl, rfl, ⟨HLW.out.symm⟩, ⟨HGO2.out⟩, ⟨by omega, by omega, by omega⟩, HL, ⟨HRW.out, HLC0.out⟩, HVA, HB, ⟨Nat.le_refl _⟩⟩
        case round =>
          obtain ⟨i, st, wt, A, n, c, rfl, rfl, HN, HA, HI, HL, HW, HVA, HB, HSZ⟩ := hrel
          have hi0 : 0 ≤ i := HI.out.1
          by_cases hlt : i < (L3 : Int)
          · have hdr := rd_drop8 la i hi0 (by have := HL3.out; omega)
            have hH := HA.out
            rw [hdr] at hH
            obtain ⟨ad, ead, hx0, hx1, hx2, hx3, hx4⟩ := at_T40 (by have h3 := HVA.out; rw [← HL3.out] at h3; exact h3.at_) i hi0 (by have := HL3.out; omega)
            subst ead
            generalize rd_T40 la i = x at hH hx0 hx1 hx2 hx3 hx4
            obtain ⟨f0, f1, f2, f3, f4⟩ := x
            rw [arrearslaw08_QuillLays.go2] at hH
            split at hH
            · rename_i hgd
              have hgd1 : (0 ≤ f0 ∧ f0 ≤ 255) := hgd.1
              have HGD := Aside0.mk (And.intro hgd1 hgd.2)
              rcases hrt : rtake wt f0 (most8 f0) with _ | ⟨⟨U, IV, SV⟩, rest⟩
              · simp only [hrt] at hH
                cases hH
              · simp only [hrt] at hH
                split at hH
                · rename_i heq
                  have HH := Aside0.mk hH
                  have HRT := Aside0.mk hrt
                  have HEQ := Aside0.mk heq
                  have hi1 := Aside0.mk (show wrap64 (i + 1) = i + 1 by have := HG.out.1; have := HL3.out; unfold wrap64; omega)
                  have hkt : Int.tmod f0 4 = f0 % 4 := Int.tmod_eq_emod_of_nonneg hgd1.1
                  clear hH hgd hgd1 hrt heq HA hdr
                  by_cases hk3 : f0 % 4 = 3
                  · skip
                    have hmst : most8 f0 = 40 := by unfold most8; rw [if_pos hk3]
                    rw [hmst] at HEQ HRT HH
                    clear hmst
                    go_upto_region 19 with (first | ((with_reducible refine gate_dst (N := 10) rfl ?_); (try (refine gate_guard (by rfl) ?_; dsimp only)); refine box_event ?hg (N := 10) ?hd (cs := #[.int .u8 0, .int .u64 0, .int .i64 0, .string (⟨#[]⟩ : ByteArray), .int .u64 0]) (t := 40) ?hr ?_; (case hd => rfl); (case hg => rfl); (case hr => first | (go_simp; done) | (go_simp; rfl)); intro gb10 hg wb hbox hb; have BK := Aside0.mk hbox; have GEB := Aside0.mk (Nat.le_of_eq hg.symm : wr.heap.size ≤ gb10); have n_ := Aside0.mk (HL.out.below hb); clear HL; have HL := n_; clear n_; have n_ := Aside0.mk (And.intro (HW.out.1.move fun b cur _ hc => hb.block b (blk_lt hc)) HW.out.2); clear HW; have HW := n_; clear n_; have n_ := Aside0.mk (HVA.out.below hb); clear HVA; have HVA := n_; clear n_; have n_ := Aside0.mk (below_step HB.out hb); clear HB; have HB := n_; clear n_; have hcz_0 : wb.cell? ⟨gb10, 0, none⟩ = some (.int .u8 0) := blk_cell hbox 0; have hfz_0 := blk_frozen hbox 0; have hcz_1 : wb.cell? ⟨gb10, 1, none⟩ = some (.int .u64 0) := blk_cell hbox 1; have hfz_1 := blk_frozen hbox 1; have hcz_2 : wb.cell? ⟨gb10, 2, none⟩ = some (.int .i64 0) := blk_cell hbox 2; have hfz_2 := blk_frozen hbox 2; have hcz_3 : wb.cell? ⟨gb10, 3, none⟩ = some (.string (⟨#[]⟩ : ByteArray)) := blk_cell hbox 3; have hfz_3 := blk_frozen hbox 3; have hcz_4 : wb.cell? ⟨gb10, 4, none⟩ = some (.int .u64 0) := blk_cell hbox 4; have hfz_4 := blk_frozen hbox 4; clear hx0 hx1 hx2 hx3 hx4; clear hbox hb hg))
                    change Code.wp _ _ _ _ (setV wb gb10 f0 f1 f2 f3 f4)
                    have hT9 : Ty wb gb10 40 := Ty.of BK.out
                    have HL_ := Aside0.mk (setV_Le (x0 := f0) (x1 := f1) (x2 := f2) (s := f3) (x4 := f4) HL.out hT9)
                    have HW_ := Aside0.mk (And.intro (RowB.setV (x0 := f0) (x1 := f1) (x2 := f2) (s := f3) (x4 := f4) HW.out.1 hT9) HW.out.2)
                    have HVA_ := Aside0.mk (setV_VR (x0 := f0) (x1 := f1) (x2 := f2) (s := f3) (x4 := f4) HVA.out (Nat.le_trans HSZ.out GEB.out))
                    have HGB := Aside0.mk (show w39.heap.size ≤ gb10 by have := GEB.out; have := HSZ.out; omega)
                    have HB_ := Aside0.mk (setV_below (x0 := f0) (x1 := f1) (x2 := f2) (s := f3) (x4 := f4) HB.out (Nat.le_trans GEW2.out HGB.out))
                    have hbk := setV_blk (x0 := f0) (x1 := f1) (x2 := f2) (s := f3) (x4 := f4) BK.out
                    have HSZ_ := Aside0.mk (show w39.heap.size ≤ (setV wb gb10 f0 f1 f2 f3 f4).heap.size by rw [setV_size]; have := blk_lt BK.out; have := GEB.out; have := HSZ.out; omega)
                    clear HL HW HVA HB HSZ BK GEB hT9 hcz_0 hfz_0 hcz_1 hfz_1 hcz_2 hfz_2 hcz_3 hfz_3 hcz_4 hfz_4
                    generalize setV wb gb10 f0 f1 f2 f3 f4 = W at HL_ HW_ HVA_ HB_ HSZ_ hbk
                    have HL := HL_
                    clear HL_
                    have HW := HW_
                    clear HW_
                    have HVA := HVA_
                    clear HVA_
                    have HB := HB_
                    clear HB_
                    have HSZ := HSZ_
                    clear HSZ_
                    have hcw_0 : W.cell? ⟨gb10, 0, none⟩ = some (.int .u8 f0) := blk_cell hbk 0
                    have hcw_1 : W.cell? ⟨gb10, 1, none⟩ = some (.int .u64 f1) := blk_cell hbk 1
                    have hcw_2 : W.cell? ⟨gb10, 2, none⟩ = some (.int .i64 f2) := blk_cell hbk 2
                    have hcw_3 : W.cell? ⟨gb10, 3, none⟩ = some (.string f3) := blk_cell hbk 3
                    have hcw_4 : W.cell? ⟨gb10, 4, none⟩ = some (.int .u64 f4) := blk_cell hbk 4
                    have hfw_4 := blk_frozen hbk 4
                    have HBK := Aside0.mk hbk
                    clear hbk
                    go_upto_region 22 with (fail)
                    have hT9 : Ty W gb10 40 := Ty.of HBK.out
                    have HL_ := Aside0.mk (show Le g8 ((W.setCell ⟨gb10, 4, none⟩ (.int .u64 18446744073709551615)).setCell ⟨gb10, 4, none⟩ (.int .u64 40)) g8 st from (HL.out.setB hT9 (by decide) (by decide) _ _).setB (hT9.set _ _ _) (by decide) (by decide) _ _)
                    have HW_ := Aside0.mk (show RowB w39.heap.size ((W.setCell ⟨gb10, 4, none⟩ (.int .u64 18446744073709551615)).setCell ⟨gb10, 4, none⟩ (.int .u64 40)) A wt ∧ wt.length ≤ c from ⟨RowB.set1 (RowB.set1 HW.out.1 hT9 4 _) (hT9.set _ _ _) 4 _, HW.out.2⟩)
                    have HVA_ := Aside0.mk (show VR w39.heap.size ((W.setCell ⟨gb10, 4, none⟩ (.int .u64 18446744073709551615)).setCell ⟨gb10, 4, none⟩ (.int .u64 40)) _ la from (HVA.out.set HGB.out _ _).set HGB.out _ _)
                    have HB_ := Aside0.mk (show Below w.heap.size w ((W.setCell ⟨gb10, 4, none⟩ (.int .u64 18446744073709551615)).setCell ⟨gb10, 4, none⟩ (.int .u64 40)) from (HB.out.setCell (p := ⟨gb10, 4, none⟩) (Nat.le_trans GEW2.out HGB.out) _).setCell (p := ⟨gb10, 4, none⟩) (Nat.le_trans GEW2.out HGB.out) _)
                    have hbk : ((W.setCell ⟨gb10, 4, none⟩ (.int .u64 18446744073709551615)).setCell ⟨gb10, 4, none⟩ (.int .u64 40)).heap[gb10]? = some (.cells #[.int .u8 f0, .int .u64 f1, .int .i64 f2, .string f3, .int .u64 40] 40 (0, 0)) := blk_put (blk_put HBK.out 4 _ rfl) 4 _ rfl
                    have HSZ_ := Aside0.mk (show w39.heap.size ≤ ((W.setCell ⟨gb10, 4, none⟩ (.int .u64 18446744073709551615)).setCell ⟨gb10, 4, none⟩ (.int .u64 40)).heap.size by simpa [World.setCell] using HSZ.out)
                    clear HL HW HVA HB HSZ hT9 HBK hcw_0 hcw_1 hcw_2 hcw_3 hcw_4 hfw_4
                    generalize ((W.setCell ⟨gb10, 4, none⟩ (.int .u64 18446744073709551615)).setCell ⟨gb10, 4, none⟩ (.int .u64 40)) = X at HL_ HW_ HVA_ HB_ HSZ_ hbk ⊢
                    have HL := HL_
                    clear HL_
                    have HW := HW_
                    clear HW_
                    have HVA := HVA_
                    clear HVA_
                    have HB := HB_
                    clear HB_
                    have HSZ := HSZ_
                    clear HSZ_
                    have hcw_0 : X.cell? ⟨gb10, 0, none⟩ = some (.int .u8 f0) := blk_cell hbk 0
                    have hcw_1 : X.cell? ⟨gb10, 1, none⟩ = some (.int .u64 f1) := blk_cell hbk 1
                    have hcw_2 : X.cell? ⟨gb10, 2, none⟩ = some (.int .i64 f2) := blk_cell hbk 2
                    have hcw_3 : X.cell? ⟨gb10, 3, none⟩ = some (.string f3) := blk_cell hbk 3
                    have hcw_4 : X.cell? ⟨gb10, 4, none⟩ = some (.int .u64 40) := blk_cell hbk 4
                    have HBK := Aside0.mk hbk
                    clear hbk
                    have hfw_0 := blk_frozen HBK.out 0
                    have hfw_1 := blk_frozen HBK.out 1
                    have hfw_2 := blk_frozen HBK.out 2
                    have hfw_3 := blk_frozen HBK.out 3
                    have hfw_4 := blk_frozen HBK.out 4
                    go_upto_region 23 with (first
                      | (go_at_call 21; (with_reducible refine (law_take f0 f1 f2 40 f3 HGD.out.1.1 HGD.out.1.2 (by decide) (by decide) g8 g8 st X HL.out (Nat.lt_of_lt_of_le G8S.out HSZ.out)).mono ?_); rintro e w54 ⟨rfl, hd⟩; simp only [HEQ.out.1]; have n_ := Aside0.mk (And.intro (HW.out.1.keep hd.2 (fun cur e => absurd ((Ty.of e).eq HL.out.ty) (by decide))) HW.out.2); clear HW; have HW := n_; clear n_; have n_ := Aside0.mk (HVA.out.farL hd HL.out); clear HVA; have HVA := n_; clear n_; have n_ := Aside0.mk (hd.blkT HL.out HBK.out (by decide)); clear HBK; have HBK := n_; clear n_; have n_ := Aside0.mk (Nat.le_trans HSZ.out hd.2.size); clear HSZ; have HSZ := n_; clear n_; have n_ := Aside0.mk (hd.law HB.out G8.out); clear HB; have HB := n_; clear n_; have n_ := Aside0.mk (hd.1); clear HL; have HL := n_; clear n_; clear hcw_0 hfw_0 hcw_1 hfw_1 hcw_2 hfw_2 hcw_3 hfw_3 hcw_4 hfw_4; have hcw_0 : w54.cell? ⟨gb10, 0, none⟩ = some (.int .u8 f0) := blk_cell HBK.out 0; have hfw_0 := blk_frozen HBK.out 0; have hcw_1 : w54.cell? ⟨gb10, 1, none⟩ = some (.int .u64 f1) := blk_cell HBK.out 1; have hfw_1 := blk_frozen HBK.out 1; have hcw_2 : w54.cell? ⟨gb10, 2, none⟩ = some (.int .i64 f2) := blk_cell HBK.out 2; have hfw_2 := blk_frozen HBK.out 2; have hcw_3 : w54.cell? ⟨gb10, 3, none⟩ = some (.string f3) := blk_cell HBK.out 3; have hfw_3 := blk_frozen HBK.out 3; have hcw_4 : w54.cell? ⟨gb10, 4, none⟩ = some (.int .u64 40) := blk_cell HBK.out 4; have hfw_4 := blk_frozen HBK.out 4; clear hd)
                      | ((with_reducible refine gate_dst (N := 11) rfl ?_); (try (refine gate_guard (by rfl) ?_; dsimp only)); refine box_event ?hg (N := 11) ?hd (cs := #[.int .u8 0, .int .u64 0, .int .i64 0, .string (⟨#[]⟩ : ByteArray), .int .u64 0]) (t := 40) ?hr ?_; (case hd => rfl); (case hg => rfl); (case hr => first | (go_simp; done) | (go_simp; rfl)); intro gb11 hg wb hbox hb; have BK := Aside0.mk hbox; have GEB := Aside0.mk (Nat.le_of_eq hg.symm : w54.heap.size ≤ gb11); have n_ := Aside0.mk (HL.out.below hb); clear HL; have HL := n_; clear n_; have n_ := Aside0.mk (And.intro (HW.out.1.move fun b cur _ hc => hb.block b (blk_lt hc)) HW.out.2); clear HW; have HW := n_; clear n_; have n_ := Aside0.mk (HVA.out.below hb); clear HVA; have HVA := n_; clear n_; have n_ := Aside0.mk (below_step HB.out hb); clear HB; have HB := n_; clear n_; have hcz_0 : wb.cell? ⟨gb11, 0, none⟩ = some (.int .u8 0) := blk_cell hbox 0; have hfz_0 := blk_frozen hbox 0; have hcz_1 : wb.cell? ⟨gb11, 1, none⟩ = some (.int .u64 0) := blk_cell hbox 1; have hfz_1 := blk_frozen hbox 1; have hcz_2 : wb.cell? ⟨gb11, 2, none⟩ = some (.int .i64 0) := blk_cell hbox 2; have hfz_2 := blk_frozen hbox 2; have hcz_3 : wb.cell? ⟨gb11, 3, none⟩ = some (.string (⟨#[]⟩ : ByteArray)) := blk_cell hbox 3; have hfz_3 := blk_frozen hbox 3; have hcz_4 : wb.cell? ⟨gb11, 4, none⟩ = some (.int .u64 0) := blk_cell hbox 4; have hfz_4 := blk_frozen hbox 4; have HSZ54 := HSZ; have HBKLT := Aside0.mk (blk_lt HBK.out); clear hcw_0 hfw_0 hcw_1 hfw_1 hcw_2 hfw_2 hcw_3 hfw_3 hcw_4 hfw_4; have n_ := Aside0.mk ((hb.block gb10 (blk_lt HBK.out)).trans HBK.out); clear HBK; have HBK := n_; clear n_; have n_ := Aside0.mk (Nat.le_trans HSZ.out hb.size); clear HSZ; have HSZ := n_; clear n_; have hcw_0 : wb.cell? ⟨gb10, 0, none⟩ = some (.int .u8 f0) := blk_cell HBK.out 0; have hfw_0 := blk_frozen HBK.out 0; have hcw_1 : wb.cell? ⟨gb10, 1, none⟩ = some (.int .u64 f1) := blk_cell HBK.out 1; have hfw_1 := blk_frozen HBK.out 1; have hcw_2 : wb.cell? ⟨gb10, 2, none⟩ = some (.int .i64 f2) := blk_cell HBK.out 2; have hfw_2 := blk_frozen HBK.out 2; have hcw_3 : wb.cell? ⟨gb10, 3, none⟩ = some (.string f3) := blk_cell HBK.out 3; have hfw_3 := blk_frozen HBK.out 3; have hcw_4 : wb.cell? ⟨gb10, 4, none⟩ = some (.int .u64 40) := blk_cell HBK.out 4; have hfw_4 := blk_frozen HBK.out 4; clear hbox hb hg))
                    have HSZW := HSZ54
                    clear HSZ54
                    clear hcw_0 hfw_0 hcw_1 hfw_1 hcw_2 hfw_2 hcw_3 hfw_3 hcw_4 hfw_4
                    change Code.wp _ _ _ _ (setV wb gb11 f0 U IV SV 0)
                    have hT9 : Ty wb gb11 40 := Ty.of BK.out
                    have HGE := Aside0.mk (show w39.heap.size ≤ gb11 by have := GEB.out; have := HSZW.out; omega)
                    have HL_ := Aside0.mk (setV_Le (x0 := f0) (x1 := U) (x2 := IV) (s := SV) (x4 := 0) HL.out hT9)
                    have HW_ := Aside0.mk (And.intro (RowB.setV (x0 := f0) (x1 := U) (x2 := IV) (s := SV) (x4 := 0) HW.out.1 hT9) HW.out.2)
                    have HVA_ := Aside0.mk (setV_VR (x0 := f0) (x1 := U) (x2 := IV) (s := SV) (x4 := 0) HVA.out HGE.out)
                    have HB_ := Aside0.mk (setV_below (x0 := f0) (x1 := U) (x2 := IV) (s := SV) (x4 := 0) HB.out (Nat.le_trans GEW2.out HGE.out))
                    have hbk := setV_blk (x0 := f0) (x1 := U) (x2 := IV) (s := SV) (x4 := 0) BK.out
                    have HSZ_ := Aside0.mk (show w39.heap.size ≤ (setV wb gb11 f0 U IV SV 0).heap.size by rw [setV_size]; exact HSZ.out)
                    have HBK_ := Aside0.mk ((setV_ne (x0 := f0) (x1 := U) (x2 := IV) (s := SV) (x4 := 0) (w := wb) (b := gb11) (show gb10 ≠ gb11 by have := HBKLT.out; have := GEB.out; omega)).trans HBK.out)
                    clear HL HW HVA HB HSZ BK GEB hT9 HGE HSZW HBK HBKLT hcz_0 hfz_0 hcz_1 hfz_1 hcz_2 hfz_2 hcz_3 hfz_3 hcz_4 hfz_4
                    generalize setV wb gb11 f0 U IV SV 0 = Y at HL_ HW_ HVA_ HB_ HSZ_ hbk HBK_ ⊢
                    have HL := HL_
                    clear HL_
                    have HW := HW_
                    clear HW_
                    have HVA := HVA_
                    clear HVA_
                    have HB := HB_
                    clear HB_
                    have HSZ := HSZ_
                    clear HSZ_
                    have HBK := HBK_
                    clear HBK_
                    have HBG := Aside0.mk hbk
                    clear hbk
                    have hcw_0 : Y.cell? ⟨gb10, 0, none⟩ = some (.int .u8 f0) := blk_cell HBK.out 0
                    have hcw_1 : Y.cell? ⟨gb10, 1, none⟩ = some (.int .u64 f1) := blk_cell HBK.out 1
                    have hcw_2 : Y.cell? ⟨gb10, 2, none⟩ = some (.int .i64 f2) := blk_cell HBK.out 2
                    have hcw_3 : Y.cell? ⟨gb10, 3, none⟩ = some (.string f3) := blk_cell HBK.out 3
                    have hcw_4 : Y.cell? ⟨gb10, 4, none⟩ = some (.int .u64 40) := blk_cell HBK.out 4
                    have hfw_0 := blk_frozen HBK.out 0
                    have hfw_1 := blk_frozen HBK.out 1
                    have hfw_2 := blk_frozen HBK.out 2
                    have hfw_3 := blk_frozen HBK.out 3
                    have hfw_4 := blk_frozen HBK.out 4
                    go_upto_region 24 with (first
                      | (go_at_call 24; (with_reducible refine calls_of_args (args' := #[.slice A wt.length c, .agg #[.int .u8 f0, .int .u64 f1, .int .i64 f2, .string f3, .int .u64 40]]) (by rw [HN.out]) ((ref_Take w39.heap.size A c wt f0 f1 f2 40 f3 Y HW.out.2 HGD.out.2.1 (all_rng HGD.out.2.2) HW.out.1 HGD.out.1.1 HGD.out.1.2 (by decide) (by decide)).mono ?_)); rintro e w58 hp; simp only [HRT.out] at hp; obtain ⟨A5, c5, rfl, hc5, hR5, hb⟩ := hp; clear HW; have HW := Aside0.mk (And.intro hR5 hc5); have n_ := Aside0.mk (HL.out.below hb); clear HL; have HL := n_; clear n_; have n_ := Aside0.mk (HVA.out.below hb); clear HVA; have HVA := n_; clear n_; have n_ := Aside0.mk (Nat.le_trans HSZ.out hb.size); clear HSZ; have HSZ := n_; clear n_; have n_ := Aside0.mk (below_step HB.out hb); clear HB; have HB := n_; clear n_; have n_ := Aside0.mk ((hb.block gb11 (blk_lt HBG.out)).trans HBG.out); clear HBG; have HBG := n_; clear n_; clear hcw_0 hfw_0 hcw_1 hfw_1 hcw_2 hfw_2 hcw_3 hfw_3 hcw_4 hfw_4; clear HBK hR5 hc5 hb)
                      | ((with_reducible refine gate_dst (N := 12) rfl ?_); (try (refine gate_guard (by rfl) ?_; dsimp only)); refine box_event ?hg (N := 12) ?hd (cs := #[.int .u8 0, .int .u64 0, .int .i64 0, .string (⟨#[]⟩ : ByteArray), .int .u64 0]) (t := 40) ?hr ?_; (case hd => rfl); (case hg => rfl); (case hr => first | (go_simp; done) | (go_simp; rfl)); intro gb12 hg wc hbox hb; have BK := Aside0.mk hbox; have GEB := Aside0.mk (Nat.le_of_eq hg.symm : w58.heap.size ≤ gb12); have n_ := Aside0.mk (HL.out.below hb); clear HL; have HL := n_; clear n_; have n_ := Aside0.mk (And.intro (HW.out.1.move fun b cur _ hc => hb.block b (blk_lt hc)) HW.out.2); clear HW; have HW := n_; clear n_; have n_ := Aside0.mk (HVA.out.below hb); clear HVA; have HVA := n_; clear n_; have n_ := Aside0.mk (below_step HB.out hb); clear HB; have HB := n_; clear n_; have hcz_0 : wc.cell? ⟨gb12, 0, none⟩ = some (.int .u8 0) := blk_cell hbox 0; have hfz_0 := blk_frozen hbox 0; have hcz_1 : wc.cell? ⟨gb12, 1, none⟩ = some (.int .u64 0) := blk_cell hbox 1; have hfz_1 := blk_frozen hbox 1; have hcz_2 : wc.cell? ⟨gb12, 2, none⟩ = some (.int .i64 0) := blk_cell hbox 2; have hfz_2 := blk_frozen hbox 2; have hcz_3 : wc.cell? ⟨gb12, 3, none⟩ = some (.string (⟨#[]⟩ : ByteArray)) := blk_cell hbox 3; have hfz_3 := blk_frozen hbox 3; have hcz_4 : wc.cell? ⟨gb12, 4, none⟩ = some (.int .u64 0) := blk_cell hbox 4; have hfz_4 := blk_frozen hbox 4; have HSZ58 := HSZ; have HBGLT := Aside0.mk (blk_lt HBG.out); have n_ := Aside0.mk ((hb.block gb11 (blk_lt HBG.out)).trans HBG.out); clear HBG; have HBG := n_; clear n_; have n_ := Aside0.mk (Nat.le_trans HSZ.out hb.size); clear HSZ; have HSZ := n_; clear n_; clear hbox hb hg))
                    have HSZW := HSZ58
                    clear HSZ58
                    change Code.wp _ _ _ _ (setV wc gb12 f0 U IV SV 0)
                    have hT9 : Ty wc gb12 40 := Ty.of BK.out
                    have HGE := Aside0.mk (show w39.heap.size ≤ gb12 by have := GEB.out; have := HSZW.out; omega)
                    have HL_ := Aside0.mk (setV_Le (x0 := f0) (x1 := U) (x2 := IV) (s := SV) (x4 := 0) HL.out hT9)
                    have HW_ := Aside0.mk (And.intro (RowB.setV (x0 := f0) (x1 := U) (x2 := IV) (s := SV) (x4 := 0) HW.out.1 hT9) HW.out.2)
                    have HVA_ := Aside0.mk (setV_VR (x0 := f0) (x1 := U) (x2 := IV) (s := SV) (x4 := 0) HVA.out HGE.out)
                    have HB_ := Aside0.mk (setV_below (x0 := f0) (x1 := U) (x2 := IV) (s := SV) (x4 := 0) HB.out (Nat.le_trans GEW2.out HGE.out))
                    have hbk := setV_blk (x0 := f0) (x1 := U) (x2 := IV) (s := SV) (x4 := 0) BK.out
                    have HSZ_ := Aside0.mk (show w39.heap.size ≤ (setV wc gb12 f0 U IV SV 0).heap.size by rw [setV_size]; exact HSZ.out)
                    have HBG_ := Aside0.mk ((setV_ne (x0 := f0) (x1 := U) (x2 := IV) (s := SV) (x4 := 0) (w := wc) (b := gb12) (show gb11 ≠ gb12 by have := HBGLT.out; have := GEB.out; omega)).trans HBG.out)
                    clear HL HW HVA HB HSZ BK GEB hT9 HGE HSZW HBG HBGLT hcz_0 hfz_0 hcz_1 hfz_1 hcz_2 hfz_2 hcz_3 hfz_3 hcz_4 hfz_4
                    generalize setV wc gb12 f0 U IV SV 0 = Z at HL_ HW_ HVA_ HB_ HSZ_ hbk HBG_ ⊢
                    have HL := HL_
                    clear HL_
                    have HW := HW_
                    clear HW_
                    have HVA := HVA_
                    clear HVA_
                    have HB := HB_
                    clear HB_
                    have HSZ := HSZ_
                    clear HSZ_
                    have HBG := HBG_
                    clear HBG_
                    have HBH := Aside0.mk hbk
                    clear hbk
                    have hcg_0 : Z.cell? ⟨gb11, 0, none⟩ = some (.int .u8 f0) := blk_cell HBG.out 0
                    have hch_0 : Z.cell? ⟨gb12, 0, none⟩ = some (.int .u8 f0) := blk_cell HBH.out 0
                    have hfg_0 := blk_frozen HBG.out 0
                    have hfh_0 := blk_frozen HBH.out 0
                    have hcg_1 : Z.cell? ⟨gb11, 1, none⟩ = some (.int .u64 U) := blk_cell HBG.out 1
                    have hch_1 : Z.cell? ⟨gb12, 1, none⟩ = some (.int .u64 U) := blk_cell HBH.out 1
                    have hfg_1 := blk_frozen HBG.out 1
                    have hfh_1 := blk_frozen HBH.out 1
                    have hcg_2 : Z.cell? ⟨gb11, 2, none⟩ = some (.int .i64 IV) := blk_cell HBG.out 2
                    have hch_2 : Z.cell? ⟨gb12, 2, none⟩ = some (.int .i64 IV) := blk_cell HBH.out 2
                    have hfg_2 := blk_frozen HBG.out 2
                    have hfh_2 := blk_frozen HBH.out 2
                    have hcg_3 : Z.cell? ⟨gb11, 3, none⟩ = some (.string SV) := blk_cell HBG.out 3
                    have hch_3 : Z.cell? ⟨gb12, 3, none⟩ = some (.string SV) := blk_cell HBH.out 3
                    have hfg_3 := blk_frozen HBG.out 3
                    have hfh_3 := blk_frozen HBH.out 3
                    have hcg_4 : Z.cell? ⟨gb11, 4, none⟩ = some (.int .u64 0) := blk_cell HBG.out 4
                    have hch_4 : Z.cell? ⟨gb12, 4, none⟩ = some (.int .u64 0) := blk_cell HBH.out 4
                    have hfg_4 := blk_frozen HBG.out 4
                    have hfh_4 := blk_frozen HBH.out 4
                    generalize hrl : rest.length = RL
                    have HRL := Aside0.mk hrl
                    clear hrl
                    go_wp2_with (first | (go_at_call 25; (with_reducible refine (lens_Rest g8 g8 _ Z HL.out).mono ?_); rintro e w71 ⟨rfl, rfl⟩; rw [HEQ.out.2, HRL.out]))
                    go_roundg (gk - 1)
                    case measure => have := HI.out.2.2; omega
                    case rel => exact ⟨i + 1, (qtake st f0 40).2, rest, A5, RL, c5, by first | rfl | rw [hi1.out], rfl, ⟨HRL.out.symm⟩, HH, ⟨by have := HI.out; omega, by have := HI.out; omega, by have := HI.out; omega⟩, HL, HW, HVA, HB, HSZ⟩
                  · skip
                    have hmst : most8 f0 = 18446744073709551615 := by unfold most8; rw [if_neg hk3]
                    rw [hmst] at HEQ HRT HH
                    clear hmst
                    have hk3b : (f0 % 4 == 3) = false := by simpa using hk3
                    clear hk3
                    go_upto_region 19 with (first | ((with_reducible refine gate_dst (N := 10) rfl ?_); (try (refine gate_guard (by rfl) ?_; dsimp only)); refine box_event ?hg (N := 10) ?hd (cs := #[.int .u8 0, .int .u64 0, .int .i64 0, .string (⟨#[]⟩ : ByteArray), .int .u64 0]) (t := 40) ?hr ?_; (case hd => rfl); (case hg => rfl); (case hr => first | (go_simp; done) | (go_simp; rfl)); intro gb10 hg wb hbox hb; have BK := Aside0.mk hbox; have GEB := Aside0.mk (Nat.le_of_eq hg.symm : wr.heap.size ≤ gb10); have n_ := Aside0.mk (HL.out.below hb); clear HL; have HL := n_; clear n_; have n_ := Aside0.mk (And.intro (HW.out.1.move fun b cur _ hc => hb.block b (blk_lt hc)) HW.out.2); clear HW; have HW := n_; clear n_; have n_ := Aside0.mk (HVA.out.below hb); clear HVA; have HVA := n_; clear n_; have n_ := Aside0.mk (below_step HB.out hb); clear HB; have HB := n_; clear n_; have hcz_0 : wb.cell? ⟨gb10, 0, none⟩ = some (.int .u8 0) := blk_cell hbox 0; have hfz_0 := blk_frozen hbox 0; have hcz_1 : wb.cell? ⟨gb10, 1, none⟩ = some (.int .u64 0) := blk_cell hbox 1; have hfz_1 := blk_frozen hbox 1; have hcz_2 : wb.cell? ⟨gb10, 2, none⟩ = some (.int .i64 0) := blk_cell hbox 2; have hfz_2 := blk_frozen hbox 2; have hcz_3 : wb.cell? ⟨gb10, 3, none⟩ = some (.string (⟨#[]⟩ : ByteArray)) := blk_cell hbox 3; have hfz_3 := blk_frozen hbox 3; have hcz_4 : wb.cell? ⟨gb10, 4, none⟩ = some (.int .u64 0) := blk_cell hbox 4; have hfz_4 := blk_frozen hbox 4; clear hx0 hx1 hx2 hx3 hx4; clear hbox hb hg))
                    change Code.wp _ _ _ _ (setV wb gb10 f0 f1 f2 f3 f4)
                    have hT9 : Ty wb gb10 40 := Ty.of BK.out
                    have HL_ := Aside0.mk (setV_Le (x0 := f0) (x1 := f1) (x2 := f2) (s := f3) (x4 := f4) HL.out hT9)
                    have HW_ := Aside0.mk (And.intro (RowB.setV (x0 := f0) (x1 := f1) (x2 := f2) (s := f3) (x4 := f4) HW.out.1 hT9) HW.out.2)
                    have HVA_ := Aside0.mk (setV_VR (x0 := f0) (x1 := f1) (x2 := f2) (s := f3) (x4 := f4) HVA.out (Nat.le_trans HSZ.out GEB.out))
                    have HGB := Aside0.mk (show w39.heap.size ≤ gb10 by have := GEB.out; have := HSZ.out; omega)
                    have HB_ := Aside0.mk (setV_below (x0 := f0) (x1 := f1) (x2 := f2) (s := f3) (x4 := f4) HB.out (Nat.le_trans GEW2.out HGB.out))
                    have hbk := setV_blk (x0 := f0) (x1 := f1) (x2 := f2) (s := f3) (x4 := f4) BK.out
                    have HSZ_ := Aside0.mk (show w39.heap.size ≤ (setV wb gb10 f0 f1 f2 f3 f4).heap.size by rw [setV_size]; have := blk_lt BK.out; have := GEB.out; have := HSZ.out; omega)
                    clear HL HW HVA HB HSZ BK GEB hT9 hcz_0 hfz_0 hcz_1 hfz_1 hcz_2 hfz_2 hcz_3 hfz_3 hcz_4 hfz_4
                    generalize setV wb gb10 f0 f1 f2 f3 f4 = W at HL_ HW_ HVA_ HB_ HSZ_ hbk
                    have HL := HL_
                    clear HL_
                    have HW := HW_
                    clear HW_
                    have HVA := HVA_
                    clear HVA_
                    have HB := HB_
                    clear HB_
                    have HSZ := HSZ_
                    clear HSZ_
                    have hcw_0 : W.cell? ⟨gb10, 0, none⟩ = some (.int .u8 f0) := blk_cell hbk 0
                    have hcw_1 : W.cell? ⟨gb10, 1, none⟩ = some (.int .u64 f1) := blk_cell hbk 1
                    have hcw_2 : W.cell? ⟨gb10, 2, none⟩ = some (.int .i64 f2) := blk_cell hbk 2
                    have hcw_3 : W.cell? ⟨gb10, 3, none⟩ = some (.string f3) := blk_cell hbk 3
                    have hcw_4 : W.cell? ⟨gb10, 4, none⟩ = some (.int .u64 f4) := blk_cell hbk 4
                    have hfw_4 := blk_frozen hbk 4
                    have HBK := Aside0.mk hbk
                    clear hbk
                    go_upto_region 22 with (fail)
                    have hT9 : Ty W gb10 40 := Ty.of HBK.out
                    have HL_ := Aside0.mk (show Le g8 (W.setCell ⟨gb10, 4, none⟩ (.int .u64 18446744073709551615)) g8 st from HL.out.setB hT9 (by decide) (by decide) _ _)
                    have HW_ := Aside0.mk (show RowB w39.heap.size (W.setCell ⟨gb10, 4, none⟩ (.int .u64 18446744073709551615)) A wt ∧ wt.length ≤ c from ⟨RowB.set1 HW.out.1 hT9 4 _, HW.out.2⟩)
                    have HVA_ := Aside0.mk (show VR w39.heap.size (W.setCell ⟨gb10, 4, none⟩ (.int .u64 18446744073709551615)) _ la from HVA.out.set HGB.out _ _)
                    have HB_ := Aside0.mk (show Below w.heap.size w (W.setCell ⟨gb10, 4, none⟩ (.int .u64 18446744073709551615)) from HB.out.setCell (p := ⟨gb10, 4, none⟩) (Nat.le_trans GEW2.out HGB.out) _)
                    have hbk : (W.setCell ⟨gb10, 4, none⟩ (.int .u64 18446744073709551615)).heap[gb10]? = some (.cells #[.int .u8 f0, .int .u64 f1, .int .i64 f2, .string f3, .int .u64 18446744073709551615] 40 (0, 0)) := blk_put HBK.out 4 _ rfl
                    have HSZ_ := Aside0.mk (show w39.heap.size ≤ (W.setCell ⟨gb10, 4, none⟩ (.int .u64 18446744073709551615)).heap.size by simpa [World.setCell] using HSZ.out)
                    clear HL HW HVA HB HSZ hT9 HBK hcw_0 hcw_1 hcw_2 hcw_3 hcw_4 hfw_4
                    generalize (W.setCell ⟨gb10, 4, none⟩ (.int .u64 18446744073709551615)) = X at HL_ HW_ HVA_ HB_ HSZ_ hbk ⊢
                    have HL := HL_
                    clear HL_
                    have HW := HW_
                    clear HW_
                    have HVA := HVA_
                    clear HVA_
                    have HB := HB_
                    clear HB_
                    have HSZ := HSZ_
                    clear HSZ_
                    have hcw_0 : X.cell? ⟨gb10, 0, none⟩ = some (.int .u8 f0) := blk_cell hbk 0
                    have hcw_1 : X.cell? ⟨gb10, 1, none⟩ = some (.int .u64 f1) := blk_cell hbk 1
                    have hcw_2 : X.cell? ⟨gb10, 2, none⟩ = some (.int .i64 f2) := blk_cell hbk 2
                    have hcw_3 : X.cell? ⟨gb10, 3, none⟩ = some (.string f3) := blk_cell hbk 3
                    have hcw_4 : X.cell? ⟨gb10, 4, none⟩ = some (.int .u64 18446744073709551615) := blk_cell hbk 4
                    have HBK := Aside0.mk hbk
                    clear hbk
                    have hfw_0 := blk_frozen HBK.out 0
                    have hfw_1 := blk_frozen HBK.out 1
                    have hfw_2 := blk_frozen HBK.out 2
                    have hfw_3 := blk_frozen HBK.out 3
                    have hfw_4 := blk_frozen HBK.out 4
                    go_upto_region 23 with (first
                      | (go_at_call 21; (with_reducible refine (law_take f0 f1 f2 18446744073709551615 f3 HGD.out.1.1 HGD.out.1.2 (by decide) (by decide) g8 g8 st X HL.out (Nat.lt_of_lt_of_le G8S.out HSZ.out)).mono ?_); rintro e w54 ⟨rfl, hd⟩; simp only [HEQ.out.1]; have n_ := Aside0.mk (And.intro (HW.out.1.keep hd.2 (fun cur e => absurd ((Ty.of e).eq HL.out.ty) (by decide))) HW.out.2); clear HW; have HW := n_; clear n_; have n_ := Aside0.mk (HVA.out.farL hd HL.out); clear HVA; have HVA := n_; clear n_; have n_ := Aside0.mk (hd.blkT HL.out HBK.out (by decide)); clear HBK; have HBK := n_; clear n_; have n_ := Aside0.mk (Nat.le_trans HSZ.out hd.2.size); clear HSZ; have HSZ := n_; clear n_; have n_ := Aside0.mk (hd.law HB.out G8.out); clear HB; have HB := n_; clear n_; have n_ := Aside0.mk (hd.1); clear HL; have HL := n_; clear n_; clear hcw_0 hfw_0 hcw_1 hfw_1 hcw_2 hfw_2 hcw_3 hfw_3 hcw_4 hfw_4; have hcw_0 : w54.cell? ⟨gb10, 0, none⟩ = some (.int .u8 f0) := blk_cell HBK.out 0; have hfw_0 := blk_frozen HBK.out 0; have hcw_1 : w54.cell? ⟨gb10, 1, none⟩ = some (.int .u64 f1) := blk_cell HBK.out 1; have hfw_1 := blk_frozen HBK.out 1; have hcw_2 : w54.cell? ⟨gb10, 2, none⟩ = some (.int .i64 f2) := blk_cell HBK.out 2; have hfw_2 := blk_frozen HBK.out 2; have hcw_3 : w54.cell? ⟨gb10, 3, none⟩ = some (.string f3) := blk_cell HBK.out 3; have hfw_3 := blk_frozen HBK.out 3; have hcw_4 : w54.cell? ⟨gb10, 4, none⟩ = some (.int .u64 18446744073709551615) := blk_cell HBK.out 4; have hfw_4 := blk_frozen HBK.out 4; clear hd)
                      | ((with_reducible refine gate_dst (N := 11) rfl ?_); (try (refine gate_guard (by rfl) ?_; dsimp only)); refine box_event ?hg (N := 11) ?hd (cs := #[.int .u8 0, .int .u64 0, .int .i64 0, .string (⟨#[]⟩ : ByteArray), .int .u64 0]) (t := 40) ?hr ?_; (case hd => rfl); (case hg => rfl); (case hr => first | (go_simp; done) | (go_simp; rfl)); intro gb11 hg wb hbox hb; have BK := Aside0.mk hbox; have GEB := Aside0.mk (Nat.le_of_eq hg.symm : w54.heap.size ≤ gb11); have n_ := Aside0.mk (HL.out.below hb); clear HL; have HL := n_; clear n_; have n_ := Aside0.mk (And.intro (HW.out.1.move fun b cur _ hc => hb.block b (blk_lt hc)) HW.out.2); clear HW; have HW := n_; clear n_; have n_ := Aside0.mk (HVA.out.below hb); clear HVA; have HVA := n_; clear n_; have n_ := Aside0.mk (below_step HB.out hb); clear HB; have HB := n_; clear n_; have hcz_0 : wb.cell? ⟨gb11, 0, none⟩ = some (.int .u8 0) := blk_cell hbox 0; have hfz_0 := blk_frozen hbox 0; have hcz_1 : wb.cell? ⟨gb11, 1, none⟩ = some (.int .u64 0) := blk_cell hbox 1; have hfz_1 := blk_frozen hbox 1; have hcz_2 : wb.cell? ⟨gb11, 2, none⟩ = some (.int .i64 0) := blk_cell hbox 2; have hfz_2 := blk_frozen hbox 2; have hcz_3 : wb.cell? ⟨gb11, 3, none⟩ = some (.string (⟨#[]⟩ : ByteArray)) := blk_cell hbox 3; have hfz_3 := blk_frozen hbox 3; have hcz_4 : wb.cell? ⟨gb11, 4, none⟩ = some (.int .u64 0) := blk_cell hbox 4; have hfz_4 := blk_frozen hbox 4; have HSZ54 := HSZ; have HBKLT := Aside0.mk (blk_lt HBK.out); clear hcw_0 hfw_0 hcw_1 hfw_1 hcw_2 hfw_2 hcw_3 hfw_3 hcw_4 hfw_4; have n_ := Aside0.mk ((hb.block gb10 (blk_lt HBK.out)).trans HBK.out); clear HBK; have HBK := n_; clear n_; have n_ := Aside0.mk (Nat.le_trans HSZ.out hb.size); clear HSZ; have HSZ := n_; clear n_; have hcw_0 : wb.cell? ⟨gb10, 0, none⟩ = some (.int .u8 f0) := blk_cell HBK.out 0; have hfw_0 := blk_frozen HBK.out 0; have hcw_1 : wb.cell? ⟨gb10, 1, none⟩ = some (.int .u64 f1) := blk_cell HBK.out 1; have hfw_1 := blk_frozen HBK.out 1; have hcw_2 : wb.cell? ⟨gb10, 2, none⟩ = some (.int .i64 f2) := blk_cell HBK.out 2; have hfw_2 := blk_frozen HBK.out 2; have hcw_3 : wb.cell? ⟨gb10, 3, none⟩ = some (.string f3) := blk_cell HBK.out 3; have hfw_3 := blk_frozen HBK.out 3; have hcw_4 : wb.cell? ⟨gb10, 4, none⟩ = some (.int .u64 18446744073709551615) := blk_cell HBK.out 4; have hfw_4 := blk_frozen HBK.out 4; clear hbox hb hg))
                    have HSZW := HSZ54
                    clear HSZ54
                    clear hcw_0 hfw_0 hcw_1 hfw_1 hcw_2 hfw_2 hcw_3 hfw_3 hcw_4 hfw_4
                    change Code.wp _ _ _ _ (setV wb gb11 f0 U IV SV 0)
                    have hT9 : Ty wb gb11 40 := Ty.of BK.out
                    have HGE := Aside0.mk (show w39.heap.size ≤ gb11 by have := GEB.out; have := HSZW.out; omega)
                    have HL_ := Aside0.mk (setV_Le (x0 := f0) (x1 := U) (x2 := IV) (s := SV) (x4 := 0) HL.out hT9)
                    have HW_ := Aside0.mk (And.intro (RowB.setV (x0 := f0) (x1 := U) (x2 := IV) (s := SV) (x4 := 0) HW.out.1 hT9) HW.out.2)
                    have HVA_ := Aside0.mk (setV_VR (x0 := f0) (x1 := U) (x2 := IV) (s := SV) (x4 := 0) HVA.out HGE.out)
                    have HB_ := Aside0.mk (setV_below (x0 := f0) (x1 := U) (x2 := IV) (s := SV) (x4 := 0) HB.out (Nat.le_trans GEW2.out HGE.out))
                    have hbk := setV_blk (x0 := f0) (x1 := U) (x2 := IV) (s := SV) (x4 := 0) BK.out
                    have HSZ_ := Aside0.mk (show w39.heap.size ≤ (setV wb gb11 f0 U IV SV 0).heap.size by rw [setV_size]; exact HSZ.out)
                    have HBK_ := Aside0.mk ((setV_ne (x0 := f0) (x1 := U) (x2 := IV) (s := SV) (x4 := 0) (w := wb) (b := gb11) (show gb10 ≠ gb11 by have := HBKLT.out; have := GEB.out; omega)).trans HBK.out)
                    clear HL HW HVA HB HSZ BK GEB hT9 HGE HSZW HBK HBKLT hcz_0 hfz_0 hcz_1 hfz_1 hcz_2 hfz_2 hcz_3 hfz_3 hcz_4 hfz_4
                    generalize setV wb gb11 f0 U IV SV 0 = Y at HL_ HW_ HVA_ HB_ HSZ_ hbk HBK_ ⊢
                    have HL := HL_
                    clear HL_
                    have HW := HW_
                    clear HW_
                    have HVA := HVA_
                    clear HVA_
                    have HB := HB_
                    clear HB_
                    have HSZ := HSZ_
                    clear HSZ_
                    have HBK := HBK_
                    clear HBK_
                    have HBG := Aside0.mk hbk
                    clear hbk
                    have hcw_0 : Y.cell? ⟨gb10, 0, none⟩ = some (.int .u8 f0) := blk_cell HBK.out 0
                    have hcw_1 : Y.cell? ⟨gb10, 1, none⟩ = some (.int .u64 f1) := blk_cell HBK.out 1
                    have hcw_2 : Y.cell? ⟨gb10, 2, none⟩ = some (.int .i64 f2) := blk_cell HBK.out 2
                    have hcw_3 : Y.cell? ⟨gb10, 3, none⟩ = some (.string f3) := blk_cell HBK.out 3
                    have hcw_4 : Y.cell? ⟨gb10, 4, none⟩ = some (.int .u64 18446744073709551615) := blk_cell HBK.out 4
                    have hfw_0 := blk_frozen HBK.out 0
                    have hfw_1 := blk_frozen HBK.out 1
                    have hfw_2 := blk_frozen HBK.out 2
                    have hfw_3 := blk_frozen HBK.out 3
                    have hfw_4 := blk_frozen HBK.out 4
                    go_upto_region 24 with (first
                      | (go_at_call 24; (with_reducible refine calls_of_args (args' := #[.slice A wt.length c, .agg #[.int .u8 f0, .int .u64 f1, .int .i64 f2, .string f3, .int .u64 18446744073709551615]]) (by rw [HN.out]) ((ref_Take w39.heap.size A c wt f0 f1 f2 18446744073709551615 f3 Y HW.out.2 HGD.out.2.1 (all_rng HGD.out.2.2) HW.out.1 HGD.out.1.1 HGD.out.1.2 (by decide) (by decide)).mono ?_)); rintro e w58 hp; simp only [HRT.out] at hp; obtain ⟨A5, c5, rfl, hc5, hR5, hb⟩ := hp; clear HW; have HW := Aside0.mk (And.intro hR5 hc5); have n_ := Aside0.mk (HL.out.below hb); clear HL; have HL := n_; clear n_; have n_ := Aside0.mk (HVA.out.below hb); clear HVA; have HVA := n_; clear n_; have n_ := Aside0.mk (Nat.le_trans HSZ.out hb.size); clear HSZ; have HSZ := n_; clear n_; have n_ := Aside0.mk (below_step HB.out hb); clear HB; have HB := n_; clear n_; have n_ := Aside0.mk ((hb.block gb11 (blk_lt HBG.out)).trans HBG.out); clear HBG; have HBG := n_; clear n_; clear hcw_0 hfw_0 hcw_1 hfw_1 hcw_2 hfw_2 hcw_3 hfw_3 hcw_4 hfw_4; clear HBK hR5 hc5 hb)
                      | ((with_reducible refine gate_dst (N := 12) rfl ?_); (try (refine gate_guard (by rfl) ?_; dsimp only)); refine box_event ?hg (N := 12) ?hd (cs := #[.int .u8 0, .int .u64 0, .int .i64 0, .string (⟨#[]⟩ : ByteArray), .int .u64 0]) (t := 40) ?hr ?_; (case hd => rfl); (case hg => rfl); (case hr => first | (go_simp; done) | (go_simp; rfl)); intro gb12 hg wc hbox hb; have BK := Aside0.mk hbox; have GEB := Aside0.mk (Nat.le_of_eq hg.symm : w58.heap.size ≤ gb12); have n_ := Aside0.mk (HL.out.below hb); clear HL; have HL := n_; clear n_; have n_ := Aside0.mk (And.intro (HW.out.1.move fun b cur _ hc => hb.block b (blk_lt hc)) HW.out.2); clear HW; have HW := n_; clear n_; have n_ := Aside0.mk (HVA.out.below hb); clear HVA; have HVA := n_; clear n_; have n_ := Aside0.mk (below_step HB.out hb); clear HB; have HB := n_; clear n_; have hcz_0 : wc.cell? ⟨gb12, 0, none⟩ = some (.int .u8 0) := blk_cell hbox 0; have hfz_0 := blk_frozen hbox 0; have hcz_1 : wc.cell? ⟨gb12, 1, none⟩ = some (.int .u64 0) := blk_cell hbox 1; have hfz_1 := blk_frozen hbox 1; have hcz_2 : wc.cell? ⟨gb12, 2, none⟩ = some (.int .i64 0) := blk_cell hbox 2; have hfz_2 := blk_frozen hbox 2; have hcz_3 : wc.cell? ⟨gb12, 3, none⟩ = some (.string (⟨#[]⟩ : ByteArray)) := blk_cell hbox 3; have hfz_3 := blk_frozen hbox 3; have hcz_4 : wc.cell? ⟨gb12, 4, none⟩ = some (.int .u64 0) := blk_cell hbox 4; have hfz_4 := blk_frozen hbox 4; have HSZ58 := HSZ; have HBGLT := Aside0.mk (blk_lt HBG.out); have n_ := Aside0.mk ((hb.block gb11 (blk_lt HBG.out)).trans HBG.out); clear HBG; have HBG := n_; clear n_; have n_ := Aside0.mk (Nat.le_trans HSZ.out hb.size); clear HSZ; have HSZ := n_; clear n_; clear hbox hb hg))
                    have HSZW := HSZ58
                    clear HSZ58
                    change Code.wp _ _ _ _ (setV wc gb12 f0 U IV SV 0)
                    have hT9 : Ty wc gb12 40 := Ty.of BK.out
                    have HGE := Aside0.mk (show w39.heap.size ≤ gb12 by have := GEB.out; have := HSZW.out; omega)
                    have HL_ := Aside0.mk (setV_Le (x0 := f0) (x1 := U) (x2 := IV) (s := SV) (x4 := 0) HL.out hT9)
                    have HW_ := Aside0.mk (And.intro (RowB.setV (x0 := f0) (x1 := U) (x2 := IV) (s := SV) (x4 := 0) HW.out.1 hT9) HW.out.2)
                    have HVA_ := Aside0.mk (setV_VR (x0 := f0) (x1 := U) (x2 := IV) (s := SV) (x4 := 0) HVA.out HGE.out)
                    have HB_ := Aside0.mk (setV_below (x0 := f0) (x1 := U) (x2 := IV) (s := SV) (x4 := 0) HB.out (Nat.le_trans GEW2.out HGE.out))
                    have hbk := setV_blk (x0 := f0) (x1 := U) (x2 := IV) (s := SV) (x4 := 0) BK.out
                    have HSZ_ := Aside0.mk (show w39.heap.size ≤ (setV wc gb12 f0 U IV SV 0).heap.size by rw [setV_size]; exact HSZ.out)
                    have HBG_ := Aside0.mk ((setV_ne (x0 := f0) (x1 := U) (x2 := IV) (s := SV) (x4 := 0) (w := wc) (b := gb12) (show gb11 ≠ gb12 by have := HBGLT.out; have := GEB.out; omega)).trans HBG.out)
                    clear HL HW HVA HB HSZ BK GEB hT9 HGE HSZW HBG HBGLT hcz_0 hfz_0 hcz_1 hfz_1 hcz_2 hfz_2 hcz_3 hfz_3 hcz_4 hfz_4
                    generalize setV wc gb12 f0 U IV SV 0 = Z at HL_ HW_ HVA_ HB_ HSZ_ hbk HBG_ ⊢
                    have HL := HL_
                    clear HL_
                    have HW := HW_
                    clear HW_
                    have HVA := HVA_
                    clear HVA_
                    have HB := HB_
                    clear HB_
                    have HSZ := HSZ_
                    clear HSZ_
                    have HBG := HBG_
                    clear HBG_
                    have HBH := Aside0.mk hbk
                    clear hbk
                    have hcg_0 : Z.cell? ⟨gb11, 0, none⟩ = some (.int .u8 f0) := blk_cell HBG.out 0
                    have hch_0 : Z.cell? ⟨gb12, 0, none⟩ = some (.int .u8 f0) := blk_cell HBH.out 0
                    have hfg_0 := blk_frozen HBG.out 0
                    have hfh_0 := blk_frozen HBH.out 0
                    have hcg_1 : Z.cell? ⟨gb11, 1, none⟩ = some (.int .u64 U) := blk_cell HBG.out 1
                    have hch_1 : Z.cell? ⟨gb12, 1, none⟩ = some (.int .u64 U) := blk_cell HBH.out 1
                    have hfg_1 := blk_frozen HBG.out 1
                    have hfh_1 := blk_frozen HBH.out 1
                    have hcg_2 : Z.cell? ⟨gb11, 2, none⟩ = some (.int .i64 IV) := blk_cell HBG.out 2
                    have hch_2 : Z.cell? ⟨gb12, 2, none⟩ = some (.int .i64 IV) := blk_cell HBH.out 2
                    have hfg_2 := blk_frozen HBG.out 2
                    have hfh_2 := blk_frozen HBH.out 2
                    have hcg_3 : Z.cell? ⟨gb11, 3, none⟩ = some (.string SV) := blk_cell HBG.out 3
                    have hch_3 : Z.cell? ⟨gb12, 3, none⟩ = some (.string SV) := blk_cell HBH.out 3
                    have hfg_3 := blk_frozen HBG.out 3
                    have hfh_3 := blk_frozen HBH.out 3
                    have hcg_4 : Z.cell? ⟨gb11, 4, none⟩ = some (.int .u64 0) := blk_cell HBG.out 4
                    have hch_4 : Z.cell? ⟨gb12, 4, none⟩ = some (.int .u64 0) := blk_cell HBH.out 4
                    have hfg_4 := blk_frozen HBG.out 4
                    have hfh_4 := blk_frozen HBH.out 4
                    generalize hrl : rest.length = RL
                    have HRL := Aside0.mk hrl
                    clear hrl
                    go_wp2_with (first | (go_at_call 25; (with_reducible refine (lens_Rest g8 g8 _ Z HL.out).mono ?_); rintro e w71 ⟨rfl, rfl⟩; rw [HEQ.out.2, HRL.out]))
                    go_roundg (gk - 1)
                    case measure => have := HI.out.2.2; omega
                    case rel => exact ⟨i + 1, (qtake st f0 18446744073709551615).2, rest, A5, RL, c5, by first | rfl | rw [hi1.out], rfl, ⟨HRL.out.symm⟩, HH, ⟨by have := HI.out; omega, by have := HI.out; omega, by have := HI.out; omega⟩, HL, HW, HVA, HB, HSZ⟩
                · exact absurd hH (by simp)
            · exact absurd hH (by simp)
          · have hH := HA.out
            rw [List.drop_of_length_le (by have := HL3.out; omega)] at hH
            simp only [arrearslaw08_QuillLays.go2, Option.some.injEq] at hH
            subst hH
            clear HA HI
            go_wp2_with (first | (go_at_call 22; refine (lens_End g8 g8 st wr HL.out).mono ?_; rintro e w79 ⟨rfl, rfl⟩; rw [if_pos HEND.out]))
            go_ret
            exact ⟨rfl, HB.out⟩
  · rw [if_neg hg] at h
    exact absurd h (by simp)
end


end Go.Proofs.Ytdojgjbiilnjpaa.PQuillLays
