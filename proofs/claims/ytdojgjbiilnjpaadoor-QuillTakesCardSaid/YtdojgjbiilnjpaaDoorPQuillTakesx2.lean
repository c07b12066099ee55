-- Printed by a wrapper of this session's round the kit's print.py; Lean checks it.
import Derived.Test.YtdojgjbiilnjpaaDoorPQuillTakesx0
import Derived.Test.YtdojgjbiilnjpaaDoorPQuillTakesx1
namespace Go.Proofs.YtdojgjbiilnjpaaDoor.PQuillTakes
open Go.RowKit Go.Proofs.YtdojgjbiilnjpaaDoorW.PrintWords Go.Proofs.YtdojgjbiilnjpaaDoorW.PrintLast Go.Proofs.YtdojgjbiilnjpaaDoorW.PrintMore
attribute [local go_sem] max2_int min2_int max_two min_two max_three min_three max_four min_four   -- for this text's walks alone
set_option linter.unusedVariables false
set_option linter.unusedSimpArgs false

/-! ### arrearslaw08_QuillTakes: function 3 -/
section
open Go.Proofs.YtdojgjbiilnjpaaDoor.M
/-- A row of values, all of it in blocks below N. -/
def VR (N : Nat) (w : World) (v : Value) (l : List S31) : Prop := Kd.R k31 31 w 0 (fun k => k < N) v l
theorem VR.of {w : World} {base : Nat} {ok : Nat → Prop} {v : Value} {l : List S31} (h : Kd.R k31 31 w base ok v l) : VR w.heap.size w v l := Kd.R_lower (Kd.R_mono (Kd.R_bound h) (fun _ hk => hk.2.2.1)) (Nat.zero_le _)
theorem VR.mono {N N1 : Nat} {w : World} {v : Value} {l : List S31} (h : VR N w v l) (hN : N ≤ N1) : VR N1 w v l := Kd.R_mono h (fun _ hk => Nat.lt_of_lt_of_le hk hN)
theorem VR.below {N : Nat} {w w1 : World} {v : Value} {l : List S31} (h : VR N w v l) (hb : Below w.heap.size w w1) : VR N w1 v l := Kd.R_below h hb
theorem VR.set {N : Nat} {w : World} {v : Value} {l : List S31} (h : VR N w v l) {b : Nat} (hb : N ≤ b) (o : Nat) (u : Value) : VR N (w.setCell ⟨b, o, none⟩ u) v l := Kd.R_far (p := ⟨b, o, none⟩) h (fun k hk => by show k ≠ b; omega) u
theorem VR.keep {N : Nat} {w w1 : World} {g : Nat} {row : Option Nat} {v : Value} {l : List S31} (h : VR N w v l) (hk : KeepQ w w1 g row) {t : TypeId} (hg : Ty w g t) (ht : t ≠ 31) (hr : ∀ k, row = some k → Ty w k 5) : VR N w1 v l := by
  refine Kd.R_mono (Kd.R_step (Kd.R_bound h) (fun k ho hlt => ?_)) (fun _ hk => hk.1)
  obtain ⟨_, _, _, q, hq, cells, hc⟩ := ho
  have hq2 : q = 31 := by simpa [k31, Kd.iso, Kd.pair, Kd.int, Kd.string, Kd.scalar] using hq
  subst hq2
  exact hk.block k hlt (fun e => by subst e; exact hg.ne ht cells hc) (fun e => (hr k e.symm).ne (by decide) cells hc)
theorem Bys.ty {w : World} {v : Value} {l : List Int} (h : Bys w v l) : ∀ k, v.ownBlock = some k → Ty w k 5 := fun k hk => h.typed k hk
theorem VR.at_ {N : Nat} {w : World} {A : Option Addr} {c : Nat} {l : List S31} (h : VR N w (.slice A l.length c) l) : Kd.C k31 w A l.length l := (Kd.R_reads' h).2.2
theorem VR.slice {N : Nat} {w : World} {v : Value} {l : List S31} (h : VR N w v l) : ∃ A c, v = .slice A l.length c := Kd.R_slice h
theorem setV_VR {N : Nat} {w : World} {b : Nat} {v : Value} {l : List S31} {x0 x1 x2 : Int} {s : ByteArray} {x4 : Int} (h : VR N w v l) (hb : N ≤ b) : VR N (setV w b x0 x1 x2 s x4) v l :=
  ((((h.set hb _ _).set hb _ _).set hb _ _).set hb _ _).set hb _ _
theorem VR.farL {N M : Nat} {w w1 : World} {g4 : Nat} {v : Value} {l : List S31} {s s' : Option (List Int)} (h : VR N w v l) (hd : LDone M w g4 s' w1) (hL : Le M w g4 s) : VR N w1 v l := h.keep hd.2 hL.ty (by decide) (fun k e => by cases e)
theorem VR.farQ {N : Nat} {w w1 : World} {g : Nat} {vq v : Value} {lq : List Int} {l : List S31} (h : VR N w v l) (hk : KeepQ w w1 g vq.ownBlock) (hq : Qu w g vq lq) : VR N w1 v l := h.keep hk hq.ty (by decide) (fun k e => hq.row.tyo e)
theorem eqV8 (d : Nat) (w : World) (x0 y0 : Int) (x1 y1 : Int) (x2 y2 : Int) (x3 y3 : ByteArray) (x4 y4 : Int) :
    (Op.equalIn (d + 2) 31 (.agg #[.int .u8 x0, .int .u64 x1, .int .i64 x2, .string x3, .int .u64 x4]) (.agg #[.int .u8 y0, .int .u64 y1, .int .i64 y2, .string y3, .int .u64 y4])).run Tryd.prog w = .ok (x0 == y0 && (x1 == y1 && (x2 == y2 && (x3.toList == y3.toList && (x4 == y4))))) w := by
  refine eqA_of Tryd.underlying31 (by kernel_rfl) ?_
  refine eqf_cons (by rfl) (by go_simp; rfl) (by go_simp; rfl) (by go_simp) ?_
  refine eqf_cons (by rfl) (by go_simp; rfl) (by go_simp; rfl) (by go_simp) ?_
  refine eqf_cons (by rfl) (by go_simp; rfl) (by go_simp; rfl) (by go_simp) ?_
  refine eqf_cons (by rfl) (by go_simp; rfl) (by go_simp; rfl) (by go_simp) ?_
  exact eqf_last (by rfl) (by go_simp; rfl) (by go_simp; rfl) (by go_simp)
attribute [local go_sem high] eqV8
/-- What both take off, value by value: the lens, the document's bytes that are left. -/
def arrearslaw08_QuillTakes.go : List S31 → Bool → Option (List Int) → List Int → Option (Option (List Int) × Bool × List Int)
  | [], ok, st, p => some (st, ok, p)
  | v :: r, ok, st, p => if (0 ≤ v.f0 ∧ v.f0 ≤ 255) ∧ (0 ≤ v.f4 ∧ v.f4 ≤ 18446744073709551615) ∧ p.length ≤ 1000000 ∧ (p.all fun x => decide (0 ≤ x ∧ x ≤ 255)) = true then
      (if ok = true then
        (match rtake p v.f0 v.f4 with
        | some (T, rest) => if (qtake st v.f0 v.f4).1 = T ∧ lrest (qtake st v.f0 v.f4).2 = (rest.length : Int) then arrearslaw08_QuillTakes.go r true (qtake st v.f0 v.f4).2 rest else none
        | none => if (qtake st v.f0 v.f4).1 = (0, 0, ⟨#[]⟩) ∧ lrest (qtake st v.f0 v.f4).2 = 0 then arrearslaw08_QuillTakes.go r false (qtake st v.f0 v.f4).2 [] else none)
      else if (qtake st v.f0 v.f4).1 = (0, 0, ⟨#[]⟩) ∧ lrest (qtake st v.f0 v.f4).2 = 0 then arrearslaw08_QuillTakes.go r false (qtake st v.f0 v.f4).2 p else none)
    else none
def arrearslaw08_QuillTakes.f (k : Nat) (l0 : List Int) (l1 : List S31) : Option Bool :=
  (arrearsref01_Cut.f k l0 60).bind fun p => (arrearslaw08_few.f k l1).bind fun l => if p.length ≤ 1000000 ∧ (p.all fun x => decide (0 ≤ x ∧ x ≤ 255)) = true ∧ l.length ≤ 1000000 then
    (arrearslaw08_QuillTakes.go l true (some p) p).bind fun s => if lend s.1 = (s.2.1 && decide (s.2.2 = [])) then some true else none
  else none
theorem setV_ne {w : World} {b c : Nat} {x0 x1 x2 : Int} {s : ByteArray} {x4 : Int} (h : c ≠ b) : (setV w b x0 x1 x2 s x4).heap[c]? = w.heap[c]? := by
  have k := fun (w : World) (o : Nat) (u : Value) => Below.heap_setCell w ⟨b, o, none⟩ u c h
  unfold setV
  rw [k, k, k, k, k]
theorem all_rng9 {l : List Int} (h : (l.all fun x => decide (0 ≤ x ∧ x ≤ 255)) = true) : ∀ x ∈ l, 0 ≤ x ∧ x ≤ 255 := fun x hx => by
  have := (List.all_eq_true.1 h) x hx
  simpa using this
theorem rd_drop9 (l : List S31) (i : Int) (h0 : 0 ≤ i) (h1 : i < l.length) : l.drop i.toNat = rd_T31 l i :: l.drop (i + 1).toNat := by
  have h : i.toNat < l.length := by omega
  rw [List.drop_eq_getElem_cons h, show (i + 1).toNat = i.toNat + 1 by omega]
  congr 1
  simp [rd_T31, List.getD_eq_getElem?_getD, List.getElem?_eq_getElem h]
set_option maxHeartbeats 8000000 in
set_option maxRecDepth 100000 in
theorem arrearslaw08_QuillTakes.calls (k : Nat) (A0 : Option Addr) (c0 : Nat) (l0 : List Int) (A1 : Option Addr) (c1 : Nat) (l1 : List S31) (r : Bool) (w : World) (hr0 : Kd.C (Kd.int .u8) w A0 l0.length l0) (hc0 : l0.length ≤ c0) (hr1 : Kd.C k31 w A1 l1.length l1) (hc1 : l1.length ≤ c1) (hG : Go.Proofs.YtdojgjbiilnjpaaDoor.M.Laid w) (h : arrearslaw08_QuillTakes.f k l0 l1 = some r) (hr : r = true) :
    Calls Tryd.prog 3 #[.slice A0 l0.length c0, .slice A1 l1.length c1] w fun e w' => e = .returned (.bool r) ∧ Below w.heap.size w w' := by
  subst hr
  obtain ⟨p, hp, h⟩ := Option.bind_eq_some_iff.mp h
  obtain ⟨l, hl, h⟩ := Option.bind_eq_some_iff.mp h
  by_cases hg : p.length ≤ 1000000 ∧ (p.all fun x => decide (0 ≤ x ∧ x ≤ 255)) = true ∧ l.length ≤ 1000000
  · rw [if_pos hg] at h
    obtain ⟨⟨ST, OK, PP⟩, hgo, h⟩ := Option.bind_eq_some_iff.mp h
    have hend : lend ST = (OK && decide (PP = [])) := by
      by_cases c : lend ST = (OK && decide (PP = []))
      · exact c
      · rw [if_neg c] at h; cases h
    have HLD := Aside0.mk hG
    have HP := Aside0.mk hp
    have HL := Aside0.mk hl
    have HG := Aside0.mk hg
    have HGO := Aside0.mk hgo
    have HEND := Aside0.mk hend
    have HR0 := Aside0.mk hr0
    have HC0 := Aside0.mk hc0
    have HR1 := Aside0.mk hr1
    have HC1 := Aside0.mk hc1
    clear hp hl hg hgo hend h hr0 hc0 hr1 hc1 hG
    go_enter Tryd.func3, Tryd.ntmps3
    go_wp2_with (first
      | (go_at_call 5; refine (arrearslaw08_awake.calls true w rfl).mono ?_; rintro e w1 ⟨rfl, hb⟩; have B1 := Aside0.mk hb; clear hb)
      | (go_at_call 6; refine (arrearsref01_Cut.calls k A0 c0 l0 60 p w1 (Kd.C_below HR0.out B1.out) HC0.out HP.out).mono ?_; rintro e w2 ⟨v2, rfl, ho, hb⟩; have HY2 := Aside0.mk (Bys.ofR ho); have B2 := Aside0.mk (below_step B1.out hb); clear ho hb)
      | (go_at_call 7; refine (arrearslaw08_few.calls k A1 c1 l1 l w2 (Kd.C_below HR1.out B2.out) HC1.out HL.out).mono ?_; rintro e w3 ⟨v3, rfl, ho, hb⟩; obtain ⟨A3, c3, e3⟩ := (VR.of ho).slice; generalize hL3 : l.length = L3 at e3; subst e3; have HL3 := Aside0.mk hL3; have HV3 := Aside0.mk (VR.of ho); have HY3 := Aside0.mk (HY2.out.below hb); have B3 := Aside0.mk (below_step B2.out hb); clear ho hb hL3)
      | (go_at_call 8; refine (quill_Look _ p w3 HY3.out HG.out.1 (by have := HG.out.2.1; simpa using this)).mono ?_; rintro e w4 ⟨g4, rfl, h1, h2, h3⟩; have HS34 := Aside0.mk h3.size; have HL4 := Aside0.mk h2; have G4 := Aside0.mk h1; have B4 := Aside0.mk (below_step B3.out h3); have HY4 := Aside0.mk (HY3.out.below h3); have HV4 := Aside0.mk (HV3.out.below h3); clear h1 h2 h3))
    obtain ⟨A4, c4, ew, _, _⟩ := HY4.out.slice
    generalize hlw : p.length = Lw at ew
    subst ew
    have HLW := Aside0.mk hlw
    clear hlw
    have HRW : Aside0 (RowB w4.heap.size w4 A4 p) := ⟨by have h_ := HY4.out; rw [← HLW.out] at h_; exact RowB.of h_⟩
    have HLC0 : Aside0 (p.length ≤ c4) := ⟨by have h_ := HY4.out; rw [← HLW.out] at h_; exact h_.rd.2⟩
    have GEW2 := Aside0.mk B4.out.size
    have G4S := Aside0.mk (show g4 < w4.heap.size from HL4.out.lt)
    have G4W := Aside0.mk (show w.heap.size ≤ g4 from Nat.le_trans B3.out.size G4.out)
    have HVA0 := Aside0.mk (HV4.out.mono HS34.out)
    have HFL := HL
    clear HP HL HR0 HC0 HR1 HC1 HV4 HV3 HY3 HY4 HS34 G4 B1 B2 B3
    go_loopg [0, 6, 26] L3 (fun gg v0 v6 v26 wr => ∃ (i : Int) (st : Option (List Int)) (ok : Bool) (wt : List Int) (A : Option Addr) (n c : Nat), v26 = .int .i64 i ∧ v6 = .bool ok ∧ v0 = .slice A n c ∧ Aside0 (n = wt.length) ∧ Aside0 (arrearslaw08_QuillTakes.go (l.drop i.toNat) ok st wt = some (ST, OK, PP)) ∧ Aside0 (0 ≤ i ∧ i ≤ (L3 : Int) ∧ L3 - i.toNat ≤ gg) ∧ Aside0 (Le g4 wr g4 st) ∧ Aside0 (RowB w4.heap.size wr A wt ∧ wt.length ≤ c) ∧ Aside0 (VR w4.heap.size wr (.slice A3 L3 c3) l) ∧ Aside0 (Below w.heap.size w wr) ∧ Aside0 (w4.heap.size ≤ wr.heap.size))
    case atStart => exact ⟨0, some p, true, p, A4, Lw, c4, rfl, rfl, rfl, ⟨HLW.out.symm⟩, ⟨HGO.out⟩, ⟨by omega, by omega, by omega⟩, HL4, ⟨HRW.out, HLC0.out⟩, HVA0, B4, ⟨Nat.le_refl _⟩⟩
    case round =>
      clear HL4 HRW HLC0 HVA0 B4 HGO
      obtain ⟨i, st, ok, wt, A, n, c, rfl, rfl, rfl, HN, HA, HI, HL, HW, HVA, HB, HSZ⟩ := hrel
      have hi0 : 0 ≤ i := HI.out.1
      by_cases hlt : i < (L3 : Int)
      · have hdr := rd_drop9 l i hi0 (by have := HL3.out; omega)
        have hH := HA.out
        rw [hdr] at hH
        obtain ⟨ad, ead, hx0, hx1, hx2, hx3, hx4⟩ := at_T31 (by have h3 := HVA.out; rw [← HL3.out] at h3; exact h3.at_) i hi0 (by have := HL3.out; omega)
        subst ead
        generalize rd_T31 l i = x at hH hx0 hx1 hx2 hx3 hx4
        obtain ⟨f0, f1, f2, f3, f4⟩ := x
        rw [arrearslaw08_QuillTakes.go] at hH
        split at hH
        · rename_i hgd
          have hgd1 : (0 ≤ f0 ∧ f0 ≤ 255) ∧ (0 ≤ f4 ∧ f4 ≤ 18446744073709551615) := ⟨hgd.1, hgd.2.1⟩
          have HGD := Aside0.mk (And.intro hgd1 hgd.2.2)
          have hi1 := Aside0.mk (show wrap64 (i + 1) = i + 1 by have := HG.out.2.2; have := HL3.out; unfold wrap64; omega)
          clear hgd hgd1 HA hdr
          cases ok with
          | true =>
            rw [if_pos rfl] at hH
            rcases hrt : rtake wt f0 f4 with _ | ⟨⟨U, IV, SV⟩, rest⟩
            · simp only [hrt] at hH
              split at hH
              · rename_i heq
                have HH := Aside0.mk hH
                have HRT := Aside0.mk hrt
                have HEQ := Aside0.mk heq
                clear hH hrt heq
                have HSZW := HSZ
                go_upto_region 9 with (first | ((with_reducible refine gate_dst (N := 8) rfl ?_); (try (refine gate_guard (by rfl) ?_; dsimp only)); refine box_event ?hg (N := 8) ?hd (cs := #[.int .u8 0, .int .u64 0, .int .i64 0, .string (⟨#[]⟩ : ByteArray), .int .u64 0]) (t := 31) ?hr ?_; (case hd => rfl); (case hg => rfl); (case hr => first | (go_simp; done) | (go_simp; rfl)); intro gb8 hg wb hbox hb; have BK := Aside0.mk hbox; have GEB := Aside0.mk (Nat.le_of_eq hg.symm : wr.heap.size ≤ gb8); have n_ := Aside0.mk (HL.out.below hb); clear HL; have HL := n_; clear n_; have n_ := Aside0.mk (And.intro (HW.out.1.move fun b cur _ hc => hb.block b (blk_lt hc)) HW.out.2); clear HW; have HW := n_; clear n_; have n_ := Aside0.mk (HVA.out.below hb); clear HVA; have HVA := n_; clear n_; have n_ := Aside0.mk (below_step HB.out hb); clear HB; have HB := n_; clear n_; have hcz_0 : wb.cell? ⟨gb8, 0, none⟩ = some (.int .u8 0) := blk_cell hbox 0; have hfz_0 := blk_frozen hbox 0; have hcz_1 : wb.cell? ⟨gb8, 1, none⟩ = some (.int .u64 0) := blk_cell hbox 1; have hfz_1 := blk_frozen hbox 1; have hcz_2 : wb.cell? ⟨gb8, 2, none⟩ = some (.int .i64 0) := blk_cell hbox 2; have hfz_2 := blk_frozen hbox 2; have hcz_3 : wb.cell? ⟨gb8, 3, none⟩ = some (.string (⟨#[]⟩ : ByteArray)) := blk_cell hbox 3; have hfz_3 := blk_frozen hbox 3; have hcz_4 : wb.cell? ⟨gb8, 4, none⟩ = some (.int .u64 0) := blk_cell hbox 4; have hfz_4 := blk_frozen hbox 4; clear hx0 hx1 hx2 hx3 hx4; have n_ := Aside0.mk (Nat.le_trans HSZ.out hb.size); clear HSZ; have HSZ := n_; clear n_; clear hbox hb hg))
                change Code.wp _ _ _ _ (setV wb gb8 f0 f1 f2 f3 f4)
                have hT9 : Ty wb gb8 31 := Ty.of BK.out
                have HGE8 := Aside0.mk (show w4.heap.size ≤ gb8 by have := GEB.out; have := HSZW.out; omega)
                have HL_ := Aside0.mk (setV_Le (x0 := f0) (x1 := f1) (x2 := f2) (s := f3) (x4 := f4) HL.out hT9)
                have HW_ := Aside0.mk (And.intro (RowB.setV (x0 := f0) (x1 := f1) (x2 := f2) (s := f3) (x4 := f4) HW.out.1 hT9) HW.out.2)
                have HVA_ := Aside0.mk (setV_VR (x0 := f0) (x1 := f1) (x2 := f2) (s := f3) (x4 := f4) HVA.out HGE8.out)
                have HB_ := Aside0.mk (setV_below (x0 := f0) (x1 := f1) (x2 := f2) (s := f3) (x4 := f4) HB.out (Nat.le_trans GEW2.out HGE8.out))
                have hbk := setV_blk (x0 := f0) (x1 := f1) (x2 := f2) (s := f3) (x4 := f4) BK.out
                have HSZ_ := Aside0.mk (show w4.heap.size ≤ (setV wb gb8 f0 f1 f2 f3 f4).heap.size by rw [setV_size]; exact HSZ.out)
                clear HSZW GEB 
                clear hcz_0 hfz_0 hcz_1 hfz_1 hcz_2 hfz_2 hcz_3 hfz_3 hcz_4 hfz_4
                clear HL HW HVA HB HSZ hT9 BK 
                generalize setV wb gb8 f0 f1 f2 f3 f4 = W at HL_ HW_ HVA_ HB_ HSZ_ hbk  ⊢
                have HL := HL_
                clear HL_
                have HW := HW_
                clear HW_
                have HVA := HVA_
                clear HVA_
                have HB := HB_
                clear HB_
                have HSZ := HSZ_
                clear HSZ_
                have HBK := Aside0.mk hbk
                clear hbk
                have hcw_0 : W.cell? ⟨gb8, 0, none⟩ = some (.int .u8 f0) := blk_cell HBK.out 0
                have hcw_1 : W.cell? ⟨gb8, 1, none⟩ = some (.int .u64 f1) := blk_cell HBK.out 1
                have hcw_2 : W.cell? ⟨gb8, 2, none⟩ = some (.int .i64 f2) := blk_cell HBK.out 2
                have hcw_3 : W.cell? ⟨gb8, 3, none⟩ = some (.string f3) := blk_cell HBK.out 3
                have hcw_4 : W.cell? ⟨gb8, 4, none⟩ = some (.int .u64 f4) := blk_cell HBK.out 4
                have hfw_0 := blk_frozen HBK.out 0
                have hfw_1 := blk_frozen HBK.out 1
                have hfw_2 := blk_frozen HBK.out 2
                have hfw_3 := blk_frozen HBK.out 3
                have hfw_4 := blk_frozen HBK.out 4
                go_upto_region 10 with (first
                  | (go_at_call 9; (with_reducible refine (law_take f0 f1 f2 f4 f3 HGD.out.1.1.1 HGD.out.1.1.2 HGD.out.1.2.1 HGD.out.1.2.2 g4 g4 st W HL.out (Nat.lt_of_lt_of_le G4S.out HSZ.out)).mono ?_); rintro e w32 ⟨rfl, hd⟩; simp only [HEQ.out.1]; have n_ := Aside0.mk (And.intro (HW.out.1.keep hd.2 (fun cur e => absurd ((Ty.of e).eq HL.out.ty) (by decide))) HW.out.2); clear HW; have HW := n_; clear n_; have n_ := Aside0.mk (HVA.out.farL hd HL.out); clear HVA; have HVA := n_; clear n_; have n_ := Aside0.mk (hd.blkT HL.out HBK.out (by decide)); clear HBK; have HBK := n_; clear n_; have n_ := Aside0.mk (Nat.le_trans HSZ.out hd.2.size); clear HSZ; have HSZ := n_; clear n_; have n_ := Aside0.mk (hd.law HB.out G4W.out); clear HB; have HB := n_; clear n_; have n_ := Aside0.mk (hd.1); clear HL; have HL := n_; clear n_; clear hcw_0 hfw_0 hcw_1 hfw_1 hcw_2 hfw_2 hcw_3 hfw_3 hcw_4 hfw_4; have hcw_0 : w32.cell? ⟨gb8, 0, none⟩ = some (.int .u8 f0) := blk_cell HBK.out 0; have hcw_1 : w32.cell? ⟨gb8, 1, none⟩ = some (.int .u64 f1) := blk_cell HBK.out 1; have hcw_2 : w32.cell? ⟨gb8, 2, none⟩ = some (.int .i64 f2) := blk_cell HBK.out 2; have hcw_3 : w32.cell? ⟨gb8, 3, none⟩ = some (.string f3) := blk_cell HBK.out 3; have hcw_4 : w32.cell? ⟨gb8, 4, none⟩ = some (.int .u64 f4) := blk_cell HBK.out 4; have hfw_0 := blk_frozen HBK.out 0; have hfw_1 := blk_frozen HBK.out 1; have hfw_2 := blk_frozen HBK.out 2; have hfw_3 := blk_frozen HBK.out 3; have hfw_4 := blk_frozen HBK.out 4; clear hd)
                  | ((with_reducible refine gate_dst (N := 9) rfl ?_); (try (refine gate_guard (by rfl) ?_; dsimp only)); refine box_event ?hg (N := 9) ?hd (cs := #[.int .u8 0, .int .u64 0, .int .i64 0, .string (⟨#[]⟩ : ByteArray), .int .u64 0]) (t := 31) ?hr ?_; (case hd => rfl); (case hg => rfl); (case hr => first | (go_simp; done) | (go_simp; rfl)); intro gb9 hg wb hbox hb; have BK := Aside0.mk hbox; have GEB := Aside0.mk (Nat.le_of_eq hg.symm : w32.heap.size ≤ gb9); have n_ := Aside0.mk (HL.out.below hb); clear HL; have HL := n_; clear n_; have n_ := Aside0.mk (And.intro (HW.out.1.move fun b cur _ hc => hb.block b (blk_lt hc)) HW.out.2); clear HW; have HW := n_; clear n_; have n_ := Aside0.mk (HVA.out.below hb); clear HVA; have HVA := n_; clear n_; have n_ := Aside0.mk (below_step HB.out hb); clear HB; have HB := n_; clear n_; have hcz_0 : wb.cell? ⟨gb9, 0, none⟩ = some (.int .u8 0) := blk_cell hbox 0; have hfz_0 := blk_frozen hbox 0; have hcz_1 : wb.cell? ⟨gb9, 1, none⟩ = some (.int .u64 0) := blk_cell hbox 1; have hfz_1 := blk_frozen hbox 1; have hcz_2 : wb.cell? ⟨gb9, 2, none⟩ = some (.int .i64 0) := blk_cell hbox 2; have hfz_2 := blk_frozen hbox 2; have hcz_3 : wb.cell? ⟨gb9, 3, none⟩ = some (.string (⟨#[]⟩ : ByteArray)) := blk_cell hbox 3; have hfz_3 := blk_frozen hbox 3; have hcz_4 : wb.cell? ⟨gb9, 4, none⟩ = some (.int .u64 0) := blk_cell hbox 4; have hfz_4 := blk_frozen hbox 4; have HSZW := HSZ; have n_ := Aside0.mk (Nat.le_trans HSZ.out hb.size); clear HSZ; have HSZ := n_; clear n_; clear hcw_0 hfw_0 hcw_1 hfw_1 hcw_2 hfw_2 hcw_3 hfw_3 hcw_4 hfw_4; have HBKLT := Aside0.mk (blk_lt HBK.out); have n_ := Aside0.mk ((hb.block gb8 (blk_lt HBK.out)).trans HBK.out); clear HBK; have HBK := n_; clear n_; have hcw_0 : wb.cell? ⟨gb8, 0, none⟩ = some (.int .u8 f0) := blk_cell HBK.out 0; have hcw_1 : wb.cell? ⟨gb8, 1, none⟩ = some (.int .u64 f1) := blk_cell HBK.out 1; have hcw_2 : wb.cell? ⟨gb8, 2, none⟩ = some (.int .i64 f2) := blk_cell HBK.out 2; have hcw_3 : wb.cell? ⟨gb8, 3, none⟩ = some (.string f3) := blk_cell HBK.out 3; have hcw_4 : wb.cell? ⟨gb8, 4, none⟩ = some (.int .u64 f4) := blk_cell HBK.out 4; have hfw_0 := blk_frozen HBK.out 0; have hfw_1 := blk_frozen HBK.out 1; have hfw_2 := blk_frozen HBK.out 2; have hfw_3 := blk_frozen HBK.out 3; have hfw_4 := blk_frozen HBK.out 4; clear hbox hb hg))
                clear hcw_0 hfw_0 hcw_1 hfw_1 hcw_2 hfw_2 hcw_3 hfw_3 hcw_4 hfw_4
                change Code.wp _ _ _ _ (setV wb gb9 f0 0 0 ⟨#[]⟩ 0)
                have hT9 : Ty wb gb9 31 := Ty.of BK.out
                have HGE9 := Aside0.mk (show w4.heap.size ≤ gb9 by have := GEB.out; have := HSZW.out; omega)
                have HL_ := Aside0.mk (setV_Le (x0 := f0) (x1 := 0) (x2 := 0) (s := ⟨#[]⟩) (x4 := 0) HL.out hT9)
                have HW_ := Aside0.mk (And.intro (RowB.setV (x0 := f0) (x1 := 0) (x2 := 0) (s := ⟨#[]⟩) (x4 := 0) HW.out.1 hT9) HW.out.2)
                have HVA_ := Aside0.mk (setV_VR (x0 := f0) (x1 := 0) (x2 := 0) (s := ⟨#[]⟩) (x4 := 0) HVA.out HGE9.out)
                have HB_ := Aside0.mk (setV_below (x0 := f0) (x1 := 0) (x2 := 0) (s := ⟨#[]⟩) (x4 := 0) HB.out (Nat.le_trans GEW2.out HGE9.out))
                have hbk := setV_blk (x0 := f0) (x1 := 0) (x2 := 0) (s := ⟨#[]⟩) (x4 := 0) BK.out
                have HSZ_ := Aside0.mk (show w4.heap.size ≤ (setV wb gb9 f0 0 0 ⟨#[]⟩ 0).heap.size by rw [setV_size]; exact HSZ.out)
                have HBK_ := Aside0.mk ((setV_ne (x0 := f0) (x1 := 0) (x2 := 0) (s := ⟨#[]⟩) (x4 := 0) (w := wb) (b := gb9) (show gb8 ≠ gb9 from by have := HBKLT.out; have := GEB.out; omega)).trans HBK.out)
                have NE8x9 := Aside0.mk (show gb8 ≠ gb9 by have := HBKLT.out; have := GEB.out; omega)
                clear HSZW GEB HBKLT
                clear hcz_0 hfz_0 hcz_1 hfz_1 hcz_2 hfz_2 hcz_3 hfz_3 hcz_4 hfz_4
                clear HL HW HVA HB HSZ hT9 BK HBK
                generalize setV wb gb9 f0 0 0 ⟨#[]⟩ 0 = X at HL_ HW_ HVA_ HB_ HSZ_ hbk HBK_ ⊢
                have HL := HL_
                clear HL_
                have HW := HW_
                clear HW_
                have HVA := HVA_
                clear HVA_
                have HB := HB_
                clear HB_
                have HSZ := HSZ_
                clear HSZ_
                have HBK := HBK_
                clear HBK_
                have HBG := Aside0.mk hbk
                clear hbk
                have hcw_0 : X.cell? ⟨gb8, 0, none⟩ = some (.int .u8 f0) := blk_cell HBK.out 0
                have hcw_1 : X.cell? ⟨gb8, 1, none⟩ = some (.int .u64 f1) := blk_cell HBK.out 1
                have hcw_2 : X.cell? ⟨gb8, 2, none⟩ = some (.int .i64 f2) := blk_cell HBK.out 2
                have hcw_3 : X.cell? ⟨gb8, 3, none⟩ = some (.string f3) := blk_cell HBK.out 3
                have hcw_4 : X.cell? ⟨gb8, 4, none⟩ = some (.int .u64 f4) := blk_cell HBK.out 4
                have hfw_0 := blk_frozen HBK.out 0
                have hfw_1 := blk_frozen HBK.out 1
                have hfw_2 := blk_frozen HBK.out 2
                have hfw_3 := blk_frozen HBK.out 3
                have hfw_4 := blk_frozen HBK.out 4
                go_upto_region 11 with (first | ((with_reducible refine gate_dst (N := 10) rfl ?_); (try (refine gate_guard (by rfl) ?_; dsimp only)); refine box_event ?hg (N := 10) ?hd (cs := #[.int .u8 0, .int .u64 0, .int .i64 0, .string (⟨#[]⟩ : ByteArray), .int .u64 0]) (t := 31) ?hr ?_; (case hd => rfl); (case hg => rfl); (case hr => first | (go_simp; done) | (go_simp; rfl)); intro gb10 hg wc hbox hb; have BK := Aside0.mk hbox; have GEB := Aside0.mk (Nat.le_of_eq hg.symm : X.heap.size ≤ gb10); have n_ := Aside0.mk (HL.out.below hb); clear HL; have HL := n_; clear n_; have n_ := Aside0.mk (And.intro (HW.out.1.move fun b cur _ hc => hb.block b (blk_lt hc)) HW.out.2); clear HW; have HW := n_; clear n_; have n_ := Aside0.mk (HVA.out.below hb); clear HVA; have HVA := n_; clear n_; have n_ := Aside0.mk (below_step HB.out hb); clear HB; have HB := n_; clear n_; have hcz_0 : wc.cell? ⟨gb10, 0, none⟩ = some (.int .u8 0) := blk_cell hbox 0; have hfz_0 := blk_frozen hbox 0; have hcz_1 : wc.cell? ⟨gb10, 1, none⟩ = some (.int .u64 0) := blk_cell hbox 1; have hfz_1 := blk_frozen hbox 1; have hcz_2 : wc.cell? ⟨gb10, 2, none⟩ = some (.int .i64 0) := blk_cell hbox 2; have hfz_2 := blk_frozen hbox 2; have hcz_3 : wc.cell? ⟨gb10, 3, none⟩ = some (.string (⟨#[]⟩ : ByteArray)) := blk_cell hbox 3; have hfz_3 := blk_frozen hbox 3; have hcz_4 : wc.cell? ⟨gb10, 4, none⟩ = some (.int .u64 0) := blk_cell hbox 4; have hfz_4 := blk_frozen hbox 4; have HSZW := HSZ; have n_ := Aside0.mk (Nat.le_trans HSZ.out hb.size); clear HSZ; have HSZ := n_; clear n_; clear hcw_0 hfw_0 hcw_1 hfw_1 hcw_2 hfw_2 hcw_3 hfw_3 hcw_4 hfw_4; have HBKLT := Aside0.mk (blk_lt HBK.out); have n_ := Aside0.mk ((hb.block gb8 (blk_lt HBK.out)).trans HBK.out); clear HBK; have HBK := n_; clear n_; have HBGLT := Aside0.mk (blk_lt HBG.out); have n_ := Aside0.mk ((hb.block gb9 (blk_lt HBG.out)).trans HBG.out); clear HBG; have HBG := n_; clear n_; have hcw_0 : wc.cell? ⟨gb8, 0, none⟩ = some (.int .u8 f0) := blk_cell HBK.out 0; have hcw_1 : wc.cell? ⟨gb8, 1, none⟩ = some (.int .u64 f1) := blk_cell HBK.out 1; have hcw_2 : wc.cell? ⟨gb8, 2, none⟩ = some (.int .i64 f2) := blk_cell HBK.out 2; have hcw_3 : wc.cell? ⟨gb8, 3, none⟩ = some (.string f3) := blk_cell HBK.out 3; have hcw_4 : wc.cell? ⟨gb8, 4, none⟩ = some (.int .u64 f4) := blk_cell HBK.out 4; have hfw_0 := blk_frozen HBK.out 0; have hfw_1 := blk_frozen HBK.out 1; have hfw_2 := blk_frozen HBK.out 2; have hfw_3 := blk_frozen HBK.out 3; have hfw_4 := blk_frozen HBK.out 4; clear hbox hb hg))
                clear hcw_0 hfw_0 hcw_1 hfw_1 hcw_2 hfw_2 hcw_3 hfw_3 hcw_4 hfw_4
                change Code.wp _ _ _ _ (setV wc gb10 f0 0 0 ⟨#[]⟩ 0)
                have hT9 : Ty wc gb10 31 := Ty.of BK.out
                have HGE10 := Aside0.mk (show w4.heap.size ≤ gb10 by have := GEB.out; have := HSZW.out; omega)
                have HL_ := Aside0.mk (setV_Le (x0 := f0) (x1 := 0) (x2 := 0) (s := ⟨#[]⟩) (x4 := 0) HL.out hT9)
                have HW_ := Aside0.mk (And.intro (RowB.setV (x0 := f0) (x1 := 0) (x2 := 0) (s := ⟨#[]⟩) (x4 := 0) HW.out.1 hT9) HW.out.2)
                have HVA_ := Aside0.mk (setV_VR (x0 := f0) (x1 := 0) (x2 := 0) (s := ⟨#[]⟩) (x4 := 0) HVA.out HGE10.out)
                have HB_ := Aside0.mk (setV_below (x0 := f0) (x1 := 0) (x2 := 0) (s := ⟨#[]⟩) (x4 := 0) HB.out (Nat.le_trans GEW2.out HGE10.out))
                have hbk := setV_blk (x0 := f0) (x1 := 0) (x2 := 0) (s := ⟨#[]⟩) (x4 := 0) BK.out
                have HSZ_ := Aside0.mk (show w4.heap.size ≤ (setV wc gb10 f0 0 0 ⟨#[]⟩ 0).heap.size by rw [setV_size]; exact HSZ.out)
                have HBK_ := Aside0.mk ((setV_ne (x0 := f0) (x1 := 0) (x2 := 0) (s := ⟨#[]⟩) (x4 := 0) (w := wc) (b := gb10) (show gb8 ≠ gb10 from by have := HBKLT.out; have := GEB.out; omega)).trans HBK.out)
                have NE8x10 := Aside0.mk (show gb8 ≠ gb10 by have := HBKLT.out; have := GEB.out; omega)
                have HBG_ := Aside0.mk ((setV_ne (x0 := f0) (x1 := 0) (x2 := 0) (s := ⟨#[]⟩) (x4 := 0) (w := wc) (b := gb10) (show gb9 ≠ gb10 from by have := HBGLT.out; have := GEB.out; omega)).trans HBG.out)
                have NE9x10 := Aside0.mk (show gb9 ≠ gb10 by have := HBGLT.out; have := GEB.out; omega)
                clear HSZW GEB HBKLT HBGLT
                clear hcz_0 hfz_0 hcz_1 hfz_1 hcz_2 hfz_2 hcz_3 hfz_3 hcz_4 hfz_4
                clear HL HW HVA HB HSZ hT9 BK HBK HBG
                generalize setV wc gb10 f0 0 0 ⟨#[]⟩ 0 = Y at HL_ HW_ HVA_ HB_ HSZ_ hbk HBK_ HBG_ ⊢
                have HL := HL_
                clear HL_
                have HW := HW_
                clear HW_
                have HVA := HVA_
                clear HVA_
                have HB := HB_
                clear HB_
                have HSZ := HSZ_
                clear HSZ_
                have HBK := HBK_
                clear HBK_
                have HBG := HBG_
                clear HBG_
                have HBH := Aside0.mk hbk
                clear hbk
                have hcw_0 : Y.cell? ⟨gb8, 0, none⟩ = some (.int .u8 f0) := blk_cell HBK.out 0
                have hcw_1 : Y.cell? ⟨gb8, 1, none⟩ = some (.int .u64 f1) := blk_cell HBK.out 1
                have hcw_2 : Y.cell? ⟨gb8, 2, none⟩ = some (.int .i64 f2) := blk_cell HBK.out 2
                have hcw_3 : Y.cell? ⟨gb8, 3, none⟩ = some (.string f3) := blk_cell HBK.out 3
                have hcw_4 : Y.cell? ⟨gb8, 4, none⟩ = some (.int .u64 f4) := blk_cell HBK.out 4
                have hfw_0 := blk_frozen HBK.out 0
                have hfw_1 := blk_frozen HBK.out 1
                have hfw_2 := blk_frozen HBK.out 2
                have hfw_3 := blk_frozen HBK.out 3
                have hfw_4 := blk_frozen HBK.out 4
                go_upto_region 14 with (first
                  | (go_at_call 10; (with_reducible refine calls_of_args (args' := #[.slice A wt.length c, .agg #[.int .u8 f0, .int .u64 f1, .int .i64 f2, .string f3, .int .u64 f4]]) (by rw [HN.out]) ((ref_Take w4.heap.size A c wt f0 f1 f2 f4 f3 Y HW.out.2 HGD.out.2.1 (all_rng9 HGD.out.2.2) HW.out.1 HGD.out.1.1.1 HGD.out.1.1.2 HGD.out.1.2.1 HGD.out.1.2.2).mono ?_)); rintro e w40 hp; simp only [HRT.out] at hp; obtain ⟨rfl, hb⟩ := hp; clear HW; have HW := Aside0.mk (show RowB w4.heap.size w40 none [] ∧ ([] : List Int).length ≤ 0 from ⟨RowB.nil _ _ _, Nat.le_refl _⟩); have n_ := Aside0.mk (HL.out.below hb); clear HL; have HL := n_; clear n_; have n_ := Aside0.mk (HVA.out.below hb); clear HVA; have HVA := n_; clear n_; have n_ := Aside0.mk (Nat.le_trans HSZ.out hb.size); clear HSZ; have HSZ := n_; clear n_; have n_ := Aside0.mk (below_step HB.out hb); clear HB; have HB := n_; clear n_; have n_ := Aside0.mk ((hb.block gb9 (blk_lt HBG.out)).trans HBG.out); clear HBG; have HBG := n_; clear n_; have n_ := Aside0.mk ((hb.block gb10 (blk_lt HBH.out)).trans HBH.out); clear HBH; have HBH := n_; clear n_; clear hcw_0 hfw_0 hcw_1 hfw_1 hcw_2 hfw_2 hcw_3 hfw_3 hcw_4 hfw_4; clear HBK; clear hb)
                  | ((with_reducible refine gate_dst (N := 12) rfl ?_); (try (refine gate_guard (by rfl) ?_; dsimp only)); refine box_event ?hg (N := 12) ?hd (cs := #[.int .u8 0, .int .u64 0, .int .i64 0, .string (⟨#[]⟩ : ByteArray), .int .u64 0]) (t := 31) ?hr ?_; (case hd => rfl); (case hg => rfl); (case hr => first | (go_simp; done) | (go_simp; rfl)); intro gb12 hg wd hbox hb; have BK := Aside0.mk hbox; have GEB := Aside0.mk (Nat.le_of_eq hg.symm : w40.heap.size ≤ gb12); have n_ := Aside0.mk (HL.out.below hb); clear HL; have HL := n_; clear n_; have n_ := Aside0.mk (And.intro (HW.out.1.move fun b cur _ hc => hb.block b (blk_lt hc)) HW.out.2); clear HW; have HW := n_; clear n_; have n_ := Aside0.mk (HVA.out.below hb); clear HVA; have HVA := n_; clear n_; have n_ := Aside0.mk (below_step HB.out hb); clear HB; have HB := n_; clear n_; have hcz_0 : wd.cell? ⟨gb12, 0, none⟩ = some (.int .u8 0) := blk_cell hbox 0; have hfz_0 := blk_frozen hbox 0; have hcz_1 : wd.cell? ⟨gb12, 1, none⟩ = some (.int .u64 0) := blk_cell hbox 1; have hfz_1 := blk_frozen hbox 1; have hcz_2 : wd.cell? ⟨gb12, 2, none⟩ = some (.int .i64 0) := blk_cell hbox 2; have hfz_2 := blk_frozen hbox 2; have hcz_3 : wd.cell? ⟨gb12, 3, none⟩ = some (.string (⟨#[]⟩ : ByteArray)) := blk_cell hbox 3; have hfz_3 := blk_frozen hbox 3; have hcz_4 : wd.cell? ⟨gb12, 4, none⟩ = some (.int .u64 0) := blk_cell hbox 4; have hfz_4 := blk_frozen hbox 4; have HSZW := HSZ; have n_ := Aside0.mk (Nat.le_trans HSZ.out hb.size); clear HSZ; have HSZ := n_; clear n_; have HBGLT := Aside0.mk (blk_lt HBG.out); have n_ := Aside0.mk ((hb.block gb9 (blk_lt HBG.out)).trans HBG.out); clear HBG; have HBG := n_; clear n_; have HBHLT := Aside0.mk (blk_lt HBH.out); have n_ := Aside0.mk ((hb.block gb10 (blk_lt HBH.out)).trans HBH.out); clear HBH; have HBH := n_; clear n_; clear hbox hb hg))
                change Code.wp _ _ _ _ (setV wd gb12 f0 0 0 ⟨#[]⟩ 0)
                have hT9 : Ty wd gb12 31 := Ty.of BK.out
                have HGE12 := Aside0.mk (show w4.heap.size ≤ gb12 by have := GEB.out; have := HSZW.out; omega)
                have HL_ := Aside0.mk (setV_Le (x0 := f0) (x1 := 0) (x2 := 0) (s := ⟨#[]⟩) (x4 := 0) HL.out hT9)
                have HW_ := Aside0.mk (And.intro (RowB.setV (x0 := f0) (x1 := 0) (x2 := 0) (s := ⟨#[]⟩) (x4 := 0) HW.out.1 hT9) HW.out.2)
                have HVA_ := Aside0.mk (setV_VR (x0 := f0) (x1 := 0) (x2 := 0) (s := ⟨#[]⟩) (x4 := 0) HVA.out HGE12.out)
                have HB_ := Aside0.mk (setV_below (x0 := f0) (x1 := 0) (x2 := 0) (s := ⟨#[]⟩) (x4 := 0) HB.out (Nat.le_trans GEW2.out HGE12.out))
                have hbk := setV_blk (x0 := f0) (x1 := 0) (x2 := 0) (s := ⟨#[]⟩) (x4 := 0) BK.out
                have HSZ_ := Aside0.mk (show w4.heap.size ≤ (setV wd gb12 f0 0 0 ⟨#[]⟩ 0).heap.size by rw [setV_size]; exact HSZ.out)
                have HBG_ := Aside0.mk ((setV_ne (x0 := f0) (x1 := 0) (x2 := 0) (s := ⟨#[]⟩) (x4 := 0) (w := wd) (b := gb12) (show gb9 ≠ gb12 from by have := HBGLT.out; have := GEB.out; omega)).trans HBG.out)
                have NE9x12 := Aside0.mk (show gb9 ≠ gb12 by have := HBGLT.out; have := GEB.out; omega)
                have HBH_ := Aside0.mk ((setV_ne (x0 := f0) (x1 := 0) (x2 := 0) (s := ⟨#[]⟩) (x4 := 0) (w := wd) (b := gb12) (show gb10 ≠ gb12 from by have := HBHLT.out; have := GEB.out; omega)).trans HBH.out)
                have NE10x12 := Aside0.mk (show gb10 ≠ gb12 by have := HBHLT.out; have := GEB.out; omega)
                clear HSZW GEB HBGLT HBHLT
                clear hcz_0 hfz_0 hcz_1 hfz_1 hcz_2 hfz_2 hcz_3 hfz_3 hcz_4 hfz_4
                clear HL HW HVA HB HSZ hT9 BK HBG HBH
                generalize setV wd gb12 f0 0 0 ⟨#[]⟩ 0 = Z at HL_ HW_ HVA_ HB_ HSZ_ hbk HBG_ HBH_ ⊢
                have HL := HL_
                clear HL_
                have HW := HW_
                clear HW_
                have HVA := HVA_
                clear HVA_
                have HB := HB_
                clear HB_
                have HSZ := HSZ_
                clear HSZ_
                have HBG := HBG_
                clear HBG_
                have HBH := HBH_
                clear HBH_
                have HBI := Aside0.mk hbk
                clear hbk
                have hcg_0 : Z.cell? ⟨gb9, 0, none⟩ = some (.int .u8 f0) := blk_cell HBG.out 0
                have hcg_1 : Z.cell? ⟨gb9, 1, none⟩ = some (.int .u64 0) := blk_cell HBG.out 1
                have hcg_2 : Z.cell? ⟨gb9, 2, none⟩ = some (.int .i64 0) := blk_cell HBG.out 2
                have hcg_3 : Z.cell? ⟨gb9, 3, none⟩ = some (.string (⟨#[]⟩ : ByteArray)) := blk_cell HBG.out 3
                have hcg_4 : Z.cell? ⟨gb9, 4, none⟩ = some (.int .u64 0) := blk_cell HBG.out 4
                have hfg_0 := blk_frozen HBG.out 0
                have hfg_1 := blk_frozen HBG.out 1
                have hfg_2 := blk_frozen HBG.out 2
                have hfg_3 := blk_frozen HBG.out 3
                have hfg_4 := blk_frozen HBG.out 4
                have hch_0 : Z.cell? ⟨gb10, 0, none⟩ = some (.int .u8 f0) := blk_cell HBH.out 0
                have hch_1 : Z.cell? ⟨gb10, 1, none⟩ = some (.int .u64 0) := blk_cell HBH.out 1
                have hch_2 : Z.cell? ⟨gb10, 2, none⟩ = some (.int .i64 0) := blk_cell HBH.out 2
                have hch_3 : Z.cell? ⟨gb10, 3, none⟩ = some (.string (⟨#[]⟩ : ByteArray)) := blk_cell HBH.out 3
                have hch_4 : Z.cell? ⟨gb10, 4, none⟩ = some (.int .u64 0) := blk_cell HBH.out 4
                have hfh_0 := blk_frozen HBH.out 0
                have hfh_1 := blk_frozen HBH.out 1
                have hfh_2 := blk_frozen HBH.out 2
                have hfh_3 := blk_frozen HBH.out 3
                have hfh_4 := blk_frozen HBH.out 4
                go_wp2_with (first | (go_at_call 11; (with_reducible refine (lens_Rest g4 g4 _ Z HL.out).mono ?_); rintro e w71 ⟨rfl, rfl⟩; rw [HEQ.out.2]))
                go_roundg (gk - 1)
                case measure => have := HI.out.2.2; omega
                case rel => exact ⟨i + 1, (qtake st f0 f4).2, false, [], none, 0, 0, by first | rfl | rw [hi1.out], rfl, rfl, ⟨rfl⟩, HH, ⟨by have := HI.out; omega, by have := HI.out; omega, by have := HI.out; omega⟩, HL, HW, HVA, HB, HSZ⟩
              · exact absurd hH (by simp)
            · simp only [hrt] at hH
              split at hH
              · rename_i heq
                have HH := Aside0.mk hH
                have HRT := Aside0.mk hrt
                have HEQ := Aside0.mk heq
                clear hH hrt heq
                have HSZW := HSZ
                go_upto_region 9 with (first | ((with_reducible refine gate_dst (N := 8) rfl ?_); (try (refine gate_guard (by rfl) ?_; dsimp only)); refine box_event ?hg (N := 8) ?hd (cs := #[.int .u8 0, .int .u64 0, .int .i64 0, .string (⟨#[]⟩ : ByteArray), .int .u64 0]) (t := 31) ?hr ?_; (case hd => rfl); (case hg => rfl); (case hr => first | (go_simp; done) | (go_simp; rfl)); intro gb8 hg wb hbox hb; have BK := Aside0.mk hbox; have GEB := Aside0.mk (Nat.le_of_eq hg.symm : wr.heap.size ≤ gb8); have n_ := Aside0.mk (HL.out.below hb); clear HL; have HL := n_; clear n_; have n_ := Aside0.mk (And.intro (HW.out.1.move fun b cur _ hc => hb.block b (blk_lt hc)) HW.out.2); clear HW; have HW := n_; clear n_; have n_ := Aside0.mk (HVA.out.below hb); clear HVA; have HVA := n_; clear n_; have n_ := Aside0.mk (below_step HB.out hb); clear HB; have HB := n_; clear n_; have hcz_0 : wb.cell? ⟨gb8, 0, none⟩ = some (.int .u8 0) := blk_cell hbox 0; have hfz_0 := blk_frozen hbox 0; have hcz_1 : wb.cell? ⟨gb8, 1, none⟩ = some (.int .u64 0) := blk_cell hbox 1; have hfz_1 := blk_frozen hbox 1; have hcz_2 : wb.cell? ⟨gb8, 2, none⟩ = some (.int .i64 0) := blk_cell hbox 2; have hfz_2 := blk_frozen hbox 2; have hcz_3 : wb.cell? ⟨gb8, 3, none⟩ = some (.string (⟨#[]⟩ : ByteArray)) := blk_cell hbox 3; have hfz_3 := blk_frozen hbox 3; have hcz_4 : wb.cell? ⟨gb8, 4, none⟩ = some (.int .u64 0) := blk_cell hbox 4; have hfz_4 := blk_frozen hbox 4; clear hx0 hx1 hx2 hx3 hx4; have n_ := Aside0.mk (Nat.le_trans HSZ.out hb.size); clear HSZ; have HSZ := n_; clear n_; clear hbox hb hg))
                change Code.wp _ _ _ _ (setV wb gb8 f0 f1 f2 f3 f4)
                have hT9 : Ty wb gb8 31 := Ty.of BK.out
                have HGE8 := Aside0.mk (show w4.heap.size ≤ gb8 by have := GEB.out; have := HSZW.out; omega)
                have HL_ := Aside0.mk (setV_Le (x0 := f0) (x1 := f1) (x2 := f2) (s := f3) (x4 := f4) HL.out hT9)
                have HW_ := Aside0.mk (And.intro (RowB.setV (x0 := f0) (x1 := f1) (x2 := f2) (s := f3) (x4 := f4) HW.out.1 hT9) HW.out.2)
                have HVA_ := Aside0.mk (setV_VR (x0 := f0) (x1 := f1) (x2 := f2) (s := f3) (x4 := f4) HVA.out HGE8.out)
                have HB_ := Aside0.mk (setV_below (x0 := f0) (x1 := f1) (x2 := f2) (s := f3) (x4 := f4) HB.out (Nat.le_trans GEW2.out HGE8.out))
                have hbk := setV_blk (x0 := f0) (x1 := f1) (x2 := f2) (s := f3) (x4 := f4) BK.out
                have HSZ_ := Aside0.mk (show w4.heap.size ≤ (setV wb gb8 f0 f1 f2 f3 f4).heap.size by rw [setV_size]; exact HSZ.out)
                clear HSZW GEB 
                clear hcz_0 hfz_0 hcz_1 hfz_1 hcz_2 hfz_2 hcz_3 hfz_3 hcz_4 hfz_4
                clear HL HW HVA HB HSZ hT9 BK 
                generalize setV wb gb8 f0 f1 f2 f3 f4 = W at HL_ HW_ HVA_ HB_ HSZ_ hbk  ⊢
                have HL := HL_
                clear HL_
                have HW := HW_
                clear HW_
                have HVA := HVA_
                clear HVA_
                have HB := HB_
                clear HB_
                have HSZ := HSZ_
                clear HSZ_
                have HBK := Aside0.mk hbk
                clear hbk
                have hcw_0 : W.cell? ⟨gb8, 0, none⟩ = some (.int .u8 f0) := blk_cell HBK.out 0
                have hcw_1 : W.cell? ⟨gb8, 1, none⟩ = some (.int .u64 f1) := blk_cell HBK.out 1
                have hcw_2 : W.cell? ⟨gb8, 2, none⟩ = some (.int .i64 f2) := blk_cell HBK.out 2
                have hcw_3 : W.cell? ⟨gb8, 3, none⟩ = some (.string f3) := blk_cell HBK.out 3
                have hcw_4 : W.cell? ⟨gb8, 4, none⟩ = some (.int .u64 f4) := blk_cell HBK.out 4
                have hfw_0 := blk_frozen HBK.out 0
                have hfw_1 := blk_frozen HBK.out 1
                have hfw_2 := blk_frozen HBK.out 2
                have hfw_3 := blk_frozen HBK.out 3
                have hfw_4 := blk_frozen HBK.out 4
                go_upto_region 10 with (first
                  | (go_at_call 9; (with_reducible refine (law_take f0 f1 f2 f4 f3 HGD.out.1.1.1 HGD.out.1.1.2 HGD.out.1.2.1 HGD.out.1.2.2 g4 g4 st W HL.out (Nat.lt_of_lt_of_le G4S.out HSZ.out)).mono ?_); rintro e w32 ⟨rfl, hd⟩; simp only [HEQ.out.1]; have n_ := Aside0.mk (And.intro (HW.out.1.keep hd.2 (fun cur e => absurd ((Ty.of e).eq HL.out.ty) (by decide))) HW.out.2); clear HW; have HW := n_; clear n_; have n_ := Aside0.mk (HVA.out.farL hd HL.out); clear HVA; have HVA := n_; clear n_; have n_ := Aside0.mk (hd.blkT HL.out HBK.out (by decide)); clear HBK; have HBK := n_; clear n_; have n_ := Aside0.mk (Nat.le_trans HSZ.out hd.2.size); clear HSZ; have HSZ := n_; clear n_; have n_ := Aside0.mk (hd.law HB.out G4W.out); clear HB; have HB := n_; clear n_; have n_ := Aside0.mk (hd.1); clear HL; have HL := n_; clear n_; clear hcw_0 hfw_0 hcw_1 hfw_1 hcw_2 hfw_2 hcw_3 hfw_3 hcw_4 hfw_4; have hcw_0 : w32.cell? ⟨gb8, 0, none⟩ = some (.int .u8 f0) := blk_cell HBK.out 0; have hcw_1 : w32.cell? ⟨gb8, 1, none⟩ = some (.int .u64 f1) := blk_cell HBK.out 1; have hcw_2 : w32.cell? ⟨gb8, 2, none⟩ = some (.int .i64 f2) := blk_cell HBK.out 2; have hcw_3 : w32.cell? ⟨gb8, 3, none⟩ = some (.string f3) := blk_cell HBK.out 3; have hcw_4 : w32.cell? ⟨gb8, 4, none⟩ = some (.int .u64 f4) := blk_cell HBK.out 4; have hfw_0 := blk_frozen HBK.out 0; have hfw_1 := blk_frozen HBK.out 1; have hfw_2 := blk_frozen HBK.out 2; have hfw_3 := blk_frozen HBK.out 3; have hfw_4 := blk_frozen HBK.out 4; clear hd)
                  | ((with_reducible refine gate_dst (N := 9) rfl ?_); (try (refine gate_guard (by rfl) ?_; dsimp only)); refine box_event ?hg (N := 9) ?hd (cs := #[.int .u8 0, .int .u64 0, .int .i64 0, .string (⟨#[]⟩ : ByteArray), .int .u64 0]) (t := 31) ?hr ?_; (case hd => rfl); (case hg => rfl); (case hr => first | (go_simp; done) | (go_simp; rfl)); intro gb9 hg wb hbox hb; have BK := Aside0.mk hbox; have GEB := Aside0.mk (Nat.le_of_eq hg.symm : w32.heap.size ≤ gb9); have n_ := Aside0.mk (HL.out.below hb); clear HL; have HL := n_; clear n_; have n_ := Aside0.mk (And.intro (HW.out.1.move fun b cur _ hc => hb.block b (blk_lt hc)) HW.out.2); clear HW; have HW := n_; clear n_; have n_ := Aside0.mk (HVA.out.below hb); clear HVA; have HVA := n_; clear n_; have n_ := Aside0.mk (below_step HB.out hb); clear HB; have HB := n_; clear n_; have hcz_0 : wb.cell? ⟨gb9, 0, none⟩ = some (.int .u8 0) := blk_cell hbox 0; have hfz_0 := blk_frozen hbox 0; have hcz_1 : wb.cell? ⟨gb9, 1, none⟩ = some (.int .u64 0) := blk_cell hbox 1; have hfz_1 := blk_frozen hbox 1; have hcz_2 : wb.cell? ⟨gb9, 2, none⟩ = some (.int .i64 0) := blk_cell hbox 2; have hfz_2 := blk_frozen hbox 2; have hcz_3 : wb.cell? ⟨gb9, 3, none⟩ = some (.string (⟨#[]⟩ : ByteArray)) := blk_cell hbox 3; have hfz_3 := blk_frozen hbox 3; have hcz_4 : wb.cell? ⟨gb9, 4, none⟩ = some (.int .u64 0) := blk_cell hbox 4; have hfz_4 := blk_frozen hbox 4; have HSZW := HSZ; have n_ := Aside0.mk (Nat.le_trans HSZ.out hb.size); clear HSZ; have HSZ := n_; clear n_; clear hcw_0 hfw_0 hcw_1 hfw_1 hcw_2 hfw_2 hcw_3 hfw_3 hcw_4 hfw_4; have HBKLT := Aside0.mk (blk_lt HBK.out); have n_ := Aside0.mk ((hb.block gb8 (blk_lt HBK.out)).trans HBK.out); clear HBK; have HBK := n_; clear n_; have hcw_0 : wb.cell? ⟨gb8, 0, none⟩ = some (.int .u8 f0) := blk_cell HBK.out 0; have hcw_1 : wb.cell? ⟨gb8, 1, none⟩ = some (.int .u64 f1) := blk_cell HBK.out 1; have hcw_2 : wb.cell? ⟨gb8, 2, none⟩ = some (.int .i64 f2) := blk_cell HBK.out 2; have hcw_3 : wb.cell? ⟨gb8, 3, none⟩ = some (.string f3) := blk_cell HBK.out 3; have hcw_4 : wb.cell? ⟨gb8, 4, none⟩ = some (.int .u64 f4) := blk_cell HBK.out 4; have hfw_0 := blk_frozen HBK.out 0; have hfw_1 := blk_frozen HBK.out 1; have hfw_2 := blk_frozen HBK.out 2; have hfw_3 := blk_frozen HBK.out 3; have hfw_4 := blk_frozen HBK.out 4; clear hbox hb hg))
                clear hcw_0 hfw_0 hcw_1 hfw_1 hcw_2 hfw_2 hcw_3 hfw_3 hcw_4 hfw_4
                change Code.wp _ _ _ _ (setV wb gb9 f0 U IV SV 0)
                have hT9 : Ty wb gb9 31 := Ty.of BK.out
                have HGE9 := Aside0.mk (show w4.heap.size ≤ gb9 by have := GEB.out; have := HSZW.out; omega)
                have HL_ := Aside0.mk (setV_Le (x0 := f0) (x1 := U) (x2 := IV) (s := SV) (x4 := 0) HL.out hT9)
                have HW_ := Aside0.mk (And.intro (RowB.setV (x0 := f0) (x1 := U) (x2 := IV) (s := SV) (x4 := 0) HW.out.1 hT9) HW.out.2)
                have HVA_ := Aside0.mk (setV_VR (x0 := f0) (x1 := U) (x2 := IV) (s := SV) (x4 := 0) HVA.out HGE9.out)
                have HB_ := Aside0.mk (setV_below (x0 := f0) (x1 := U) (x2 := IV) (s := SV) (x4 := 0) HB.out (Nat.le_trans GEW2.out HGE9.out))
                have hbk := setV_blk (x0 := f0) (x1 := U) (x2 := IV) (s := SV) (x4 := 0) BK.out
                have HSZ_ := Aside0.mk (show w4.heap.size ≤ (setV wb gb9 f0 U IV SV 0).heap.size by rw [setV_size]; exact HSZ.out)
                have HBK_ := Aside0.mk ((setV_ne (x0 := f0) (x1 := U) (x2 := IV) (s := SV) (x4 := 0) (w := wb) (b := gb9) (show gb8 ≠ gb9 from by have := HBKLT.out; have := GEB.out; omega)).trans HBK.out)
                have NE8x9 := Aside0.mk (show gb8 ≠ gb9 by have := HBKLT.out; have := GEB.out; omega)
                clear HSZW GEB HBKLT
                clear hcz_0 hfz_0 hcz_1 hfz_1 hcz_2 hfz_2 hcz_3 hfz_3 hcz_4 hfz_4
                clear HL HW HVA HB HSZ hT9 BK HBK
                generalize setV wb gb9 f0 U IV SV 0 = X at HL_ HW_ HVA_ HB_ HSZ_ hbk HBK_ ⊢
                have HL := HL_
                clear HL_
                have HW := HW_
                clear HW_
                have HVA := HVA_
                clear HVA_
                have HB := HB_
                clear HB_
                have HSZ := HSZ_
                clear HSZ_
                have HBK := HBK_
                clear HBK_
                have HBG := Aside0.mk hbk
                clear hbk
                have hcw_0 : X.cell? ⟨gb8, 0, none⟩ = some (.int .u8 f0) := blk_cell HBK.out 0
                have hcw_1 : X.cell? ⟨gb8, 1, none⟩ = some (.int .u64 f1) := blk_cell HBK.out 1
                have hcw_2 : X.cell? ⟨gb8, 2, none⟩ = some (.int .i64 f2) := blk_cell HBK.out 2
                have hcw_3 : X.cell? ⟨gb8, 3, none⟩ = some (.string f3) := blk_cell HBK.out 3
                have hcw_4 : X.cell? ⟨gb8, 4, none⟩ = some (.int .u64 f4) := blk_cell HBK.out 4
                have hfw_0 := blk_frozen HBK.out 0
                have hfw_1 := blk_frozen HBK.out 1
                have hfw_2 := blk_frozen HBK.out 2
                have hfw_3 := blk_frozen HBK.out 3
                have hfw_4 := blk_frozen HBK.out 4
                go_upto_region 11 with (first | ((with_reducible refine gate_dst (N := 10) rfl ?_); (try (refine gate_guard (by rfl) ?_; dsimp only)); refine box_event ?hg (N := 10) ?hd (cs := #[.int .u8 0, .int .u64 0, .int .i64 0, .string (⟨#[]⟩ : ByteArray), .int .u64 0]) (t := 31) ?hr ?_; (case hd => rfl); (case hg => rfl); (case hr => first | (go_simp; done) | (go_simp; rfl)); intro gb10 hg wc hbox hb; have BK := Aside0.mk hbox; have GEB := Aside0.mk (Nat.le_of_eq hg.symm : X.heap.size ≤ gb10); have n_ := Aside0.mk (HL.out.below hb); clear HL; have HL := n_; clear n_; have n_ := Aside0.mk (And.intro (HW.out.1.move fun b cur _ hc => hb.block b (blk_lt hc)) HW.out.2); clear HW; have HW := n_; clear n_; have n_ := Aside0.mk (HVA.out.below hb); clear HVA; have HVA := n_; clear n_; have n_ := Aside0.mk (below_step HB.out hb); clear HB; have HB := n_; clear n_; have hcz_0 : wc.cell? ⟨gb10, 0, none⟩ = some (.int .u8 0) := blk_cell hbox 0; have hfz_0 := blk_frozen hbox 0; have hcz_1 : wc.cell? ⟨gb10, 1, none⟩ = some (.int .u64 0) := blk_cell hbox 1; have hfz_1 := blk_frozen hbox 1; have hcz_2 : wc.cell? ⟨gb10, 2, none⟩ = some (.int .i64 0) := blk_cell hbox 2; have hfz_2 := blk_frozen hbox 2; have hcz_3 : wc.cell? ⟨gb10, 3, none⟩ = some (.string (⟨#[]⟩ : ByteArray)) := blk_cell hbox 3; have hfz_3 := blk_frozen hbox 3; have hcz_4 : wc.cell? ⟨gb10, 4, none⟩ = some (.int .u64 0) := blk_cell hbox 4; have hfz_4 := blk_frozen hbox 4; have HSZW := HSZ; have n_ := Aside0.mk (Nat.le_trans HSZ.out hb.size); clear HSZ; have HSZ := n_; clear n_; clear hcw_0 hfw_0 hcw_1 hfw_1 hcw_2 hfw_2 hcw_3 hfw_3 hcw_4 hfw_4; have HBKLT := Aside0.mk (blk_lt HBK.out); have n_ := Aside0.mk ((hb.block gb8 (blk_lt HBK.out)).trans HBK.out); clear HBK; have HBK := n_; clear n_; have HBGLT := Aside0.mk (blk_lt HBG.out); have n_ := Aside0.mk ((hb.block gb9 (blk_lt HBG.out)).trans HBG.out); clear HBG; have HBG := n_; clear n_; have hcw_0 : wc.cell? ⟨gb8, 0, none⟩ = some (.int .u8 f0) := blk_cell HBK.out 0; have hcw_1 : wc.cell? ⟨gb8, 1, none⟩ = some (.int .u64 f1) := blk_cell HBK.out 1; have hcw_2 : wc.cell? ⟨gb8, 2, none⟩ = some (.int .i64 f2) := blk_cell HBK.out 2; have hcw_3 : wc.cell? ⟨gb8, 3, none⟩ = some (.string f3) := blk_cell HBK.out 3; have hcw_4 : wc.cell? ⟨gb8, 4, none⟩ = some (.int .u64 f4) := blk_cell HBK.out 4; have hfw_0 := blk_frozen HBK.out 0; have hfw_1 := blk_frozen HBK.out 1; have hfw_2 := blk_frozen HBK.out 2; have hfw_3 := blk_frozen HBK.out 3; have hfw_4 := blk_frozen HBK.out 4; clear hbox hb hg))
                clear hcw_0 hfw_0 hcw_1 hfw_1 hcw_2 hfw_2 hcw_3 hfw_3 hcw_4 hfw_4
                change Code.wp _ _ _ _ (setV wc gb10 f0 0 0 ⟨#[]⟩ 0)
                have hT9 : Ty wc gb10 31 := Ty.of BK.out
                have HGE10 := Aside0.mk (show w4.heap.size ≤ gb10 by have := GEB.out; have := HSZW.out; omega)
                have HL_ := Aside0.mk (setV_Le (x0 := f0) (x1 := 0) (x2 := 0) (s := ⟨#[]⟩) (x4 := 0) HL.out hT9)
                have HW_ := Aside0.mk (And.intro (RowB.setV (x0 := f0) (x1 := 0) (x2 := 0) (s := ⟨#[]⟩) (x4 := 0) HW.out.1 hT9) HW.out.2)
                have HVA_ := Aside0.mk (setV_VR (x0 := f0) (x1 := 0) (x2 := 0) (s := ⟨#[]⟩) (x4 := 0) HVA.out HGE10.out)
                have HB_ := Aside0.mk (setV_below (x0 := f0) (x1 := 0) (x2 := 0) (s := ⟨#[]⟩) (x4 := 0) HB.out (Nat.le_trans GEW2.out HGE10.out))
                have hbk := setV_blk (x0 := f0) (x1 := 0) (x2 := 0) (s := ⟨#[]⟩) (x4 := 0) BK.out
                have HSZ_ := Aside0.mk (show w4.heap.size ≤ (setV wc gb10 f0 0 0 ⟨#[]⟩ 0).heap.size by rw [setV_size]; exact HSZ.out)
                have HBK_ := Aside0.mk ((setV_ne (x0 := f0) (x1 := 0) (x2 := 0) (s := ⟨#[]⟩) (x4 := 0) (w := wc) (b := gb10) (show gb8 ≠ gb10 from by have := HBKLT.out; have := GEB.out; omega)).trans HBK.out)
                have NE8x10 := Aside0.mk (show gb8 ≠ gb10 by have := HBKLT.out; have := GEB.out; omega)
                have HBG_ := Aside0.mk ((setV_ne (x0 := f0) (x1 := 0) (x2 := 0) (s := ⟨#[]⟩) (x4 := 0) (w := wc) (b := gb10) (show gb9 ≠ gb10 from by have := HBGLT.out; have := GEB.out; omega)).trans HBG.out)
                have NE9x10 := Aside0.mk (show gb9 ≠ gb10 by have := HBGLT.out; have := GEB.out; omega)
                clear HSZW GEB HBKLT HBGLT
                clear hcz_0 hfz_0 hcz_1 hfz_1 hcz_2 hfz_2 hcz_3 hfz_3 hcz_4 hfz_4
                clear HL HW HVA HB HSZ hT9 BK HBK HBG
                generalize setV wc gb10 f0 0 0 ⟨#[]⟩ 0 = Y at HL_ HW_ HVA_ HB_ HSZ_ hbk HBK_ HBG_ ⊢
                have HL := HL_
                clear HL_
                have HW := HW_
                clear HW_
                have HVA := HVA_
                clear HVA_
                have HB := HB_
                clear HB_
                have HSZ := HSZ_
                clear HSZ_
                have HBK := HBK_
                clear HBK_
                have HBG := HBG_
                clear HBG_
                have HBH := Aside0.mk hbk
                clear hbk
                have hcw_0 : Y.cell? ⟨gb8, 0, none⟩ = some (.int .u8 f0) := blk_cell HBK.out 0
                have hcw_1 : Y.cell? ⟨gb8, 1, none⟩ = some (.int .u64 f1) := blk_cell HBK.out 1
                have hcw_2 : Y.cell? ⟨gb8, 2, none⟩ = some (.int .i64 f2) := blk_cell HBK.out 2
                have hcw_3 : Y.cell? ⟨gb8, 3, none⟩ = some (.string f3) := blk_cell HBK.out 3
                have hcw_4 : Y.cell? ⟨gb8, 4, none⟩ = some (.int .u64 f4) := blk_cell HBK.out 4
                have hfw_0 := blk_frozen HBK.out 0
                have hfw_1 := blk_frozen HBK.out 1
                have hfw_2 := blk_frozen HBK.out 2
                have hfw_3 := blk_frozen HBK.out 3
                have hfw_4 := blk_frozen HBK.out 4
                go_upto_region 14 with (first
                  | (go_at_call 10; (with_reducible refine calls_of_args (args' := #[.slice A wt.length c, .agg #[.int .u8 f0, .int .u64 f1, .int .i64 f2, .string f3, .int .u64 f4]]) (by rw [HN.out]) ((ref_Take w4.heap.size A c wt f0 f1 f2 f4 f3 Y HW.out.2 HGD.out.2.1 (all_rng9 HGD.out.2.2) HW.out.1 HGD.out.1.1.1 HGD.out.1.1.2 HGD.out.1.2.1 HGD.out.1.2.2).mono ?_)); rintro e w40 hp; simp only [HRT.out] at hp; obtain ⟨A5, c5, rfl, hc5, hR5, hb⟩ := hp; clear HW; have HW := Aside0.mk (And.intro hR5 hc5); have n_ := Aside0.mk (HL.out.below hb); clear HL; have HL := n_; clear n_; have n_ := Aside0.mk (HVA.out.below hb); clear HVA; have HVA := n_; clear n_; have n_ := Aside0.mk (Nat.le_trans HSZ.out hb.size); clear HSZ; have HSZ := n_; clear n_; have n_ := Aside0.mk (below_step HB.out hb); clear HB; have HB := n_; clear n_; have n_ := Aside0.mk ((hb.block gb9 (blk_lt HBG.out)).trans HBG.out); clear HBG; have HBG := n_; clear n_; have n_ := Aside0.mk ((hb.block gb10 (blk_lt HBH.out)).trans HBH.out); clear HBH; have HBH := n_; clear n_; clear hcw_0 hfw_0 hcw_1 hfw_1 hcw_2 hfw_2 hcw_3 hfw_3 hcw_4 hfw_4; clear HBK; clear hR5 hc5 hb)
                  | ((with_reducible refine gate_dst (N := 12) rfl ?_); (try (refine gate_guard (by rfl) ?_; dsimp only)); refine box_event ?hg (N := 12) ?hd (cs := #[.int .u8 0, .int .u64 0, .int .i64 0, .string (⟨#[]⟩ : ByteArray), .int .u64 0]) (t := 31) ?hr ?_; (case hd => rfl); (case hg => rfl); (case hr => first | (go_simp; done) | (go_simp; rfl)); intro gb12 hg wd hbox hb; have BK := Aside0.mk hbox; have GEB := Aside0.mk (Nat.le_of_eq hg.symm : w40.heap.size ≤ gb12); have n_ := Aside0.mk (HL.out.below hb); clear HL; have HL := n_; clear n_; have n_ := Aside0.mk (And.intro (HW.out.1.move fun b cur _ hc => hb.block b (blk_lt hc)) HW.out.2); clear HW; have HW := n_; clear n_; have n_ := Aside0.mk (HVA.out.below hb); clear HVA; have HVA := n_; clear n_; have n_ := Aside0.mk (below_step HB.out hb); clear HB; have HB := n_; clear n_; have hcz_0 : wd.cell? ⟨gb12, 0, none⟩ = some (.int .u8 0) := blk_cell hbox 0; have hfz_0 := blk_frozen hbox 0; have hcz_1 : wd.cell? ⟨gb12, 1, none⟩ = some (.int .u64 0) := blk_cell hbox 1; have hfz_1 := blk_frozen hbox 1; have hcz_2 : wd.cell? ⟨gb12, 2, none⟩ = some (.int .i64 0) := blk_cell hbox 2; have hfz_2 := blk_frozen hbox 2; have hcz_3 : wd.cell? ⟨gb12, 3, none⟩ = some (.string (⟨#[]⟩ : ByteArray)) := blk_cell hbox 3; have hfz_3 := blk_frozen hbox 3; have hcz_4 : wd.cell? ⟨gb12, 4, none⟩ = some (.int .u64 0) := blk_cell hbox 4; have hfz_4 := blk_frozen hbox 4; have HSZW := HSZ; have n_ := Aside0.mk (Nat.le_trans HSZ.out hb.size); clear HSZ; have HSZ := n_; clear n_; have HBGLT := Aside0.mk (blk_lt HBG.out); have n_ := Aside0.mk ((hb.block gb9 (blk_lt HBG.out)).trans HBG.out); clear HBG; have HBG := n_; clear n_; have HBHLT := Aside0.mk (blk_lt HBH.out); have n_ := Aside0.mk ((hb.block gb10 (blk_lt HBH.out)).trans HBH.out); clear HBH; have HBH := n_; clear n_; clear hbox hb hg))
                change Code.wp _ _ _ _ (setV wd gb12 f0 U IV SV 0)
                have hT9 : Ty wd gb12 31 := Ty.of BK.out
                have HGE12 := Aside0.mk (show w4.heap.size ≤ gb12 by have := GEB.out; have := HSZW.out; omega)
                have HL_ := Aside0.mk (setV_Le (x0 := f0) (x1 := U) (x2 := IV) (s := SV) (x4 := 0) HL.out hT9)
                have HW_ := Aside0.mk (And.intro (RowB.setV (x0 := f0) (x1 := U) (x2 := IV) (s := SV) (x4 := 0) HW.out.1 hT9) HW.out.2)
                have HVA_ := Aside0.mk (setV_VR (x0 := f0) (x1 := U) (x2 := IV) (s := SV) (x4 := 0) HVA.out HGE12.out)
                have HB_ := Aside0.mk (setV_below (x0 := f0) (x1 := U) (x2 := IV) (s := SV) (x4 := 0) HB.out (Nat.le_trans GEW2.out HGE12.out))
                have hbk := setV_blk (x0 := f0) (x1 := U) (x2 := IV) (s := SV) (x4 := 0) BK.out
                have HSZ_ := Aside0.mk (show w4.heap.size ≤ (setV wd gb12 f0 U IV SV 0).heap.size by rw [setV_size]; exact HSZ.out)
                have HBG_ := Aside0.mk ((setV_ne (x0 := f0) (x1 := U) (x2 := IV) (s := SV) (x4 := 0) (w := wd) (b := gb12) (show gb9 ≠ gb12 from by have := HBGLT.out; have := GEB.out; omega)).trans HBG.out)
                have NE9x12 := Aside0.mk (show gb9 ≠ gb12 by have := HBGLT.out; have := GEB.out; omega)
                have HBH_ := Aside0.mk ((setV_ne (x0 := f0) (x1 := U) (x2 := IV) (s := SV) (x4 := 0) (w := wd) (b := gb12) (show gb10 ≠ gb12 from by have := HBHLT.out; have := GEB.out; omega)).trans HBH.out)
                have NE10x12 := Aside0.mk (show gb10 ≠ gb12 by have := HBHLT.out; have := GEB.out; omega)
                clear HSZW GEB HBGLT HBHLT
                clear hcz_0 hfz_0 hcz_1 hfz_1 hcz_2 hfz_2 hcz_3 hfz_3 hcz_4 hfz_4
                clear HL HW HVA HB HSZ hT9 BK HBG HBH
                generalize setV wd gb12 f0 U IV SV 0 = Z at HL_ HW_ HVA_ HB_ HSZ_ hbk HBG_ HBH_ ⊢
                have HL := HL_
                clear HL_
                have HW := HW_
                clear HW_
                have HVA := HVA_
                clear HVA_
                have HB := HB_
                clear HB_
                have HSZ := HSZ_
                clear HSZ_
                have HBG := HBG_
                clear HBG_
                have HBH := HBH_
                clear HBH_
                have HBI := Aside0.mk hbk
                clear hbk
                have hci_0 : Z.cell? ⟨gb12, 0, none⟩ = some (.int .u8 f0) := blk_cell HBI.out 0
                have hci_1 : Z.cell? ⟨gb12, 1, none⟩ = some (.int .u64 U) := blk_cell HBI.out 1
                have hci_2 : Z.cell? ⟨gb12, 2, none⟩ = some (.int .i64 IV) := blk_cell HBI.out 2
                have hci_3 : Z.cell? ⟨gb12, 3, none⟩ = some (.string SV) := blk_cell HBI.out 3
                have hci_4 : Z.cell? ⟨gb12, 4, none⟩ = some (.int .u64 0) := blk_cell HBI.out 4
                have hfi_0 := blk_frozen HBI.out 0
                have hfi_1 := blk_frozen HBI.out 1
                have hfi_2 := blk_frozen HBI.out 2
                have hfi_3 := blk_frozen HBI.out 3
                have hfi_4 := blk_frozen HBI.out 4
                have hch_0 : Z.cell? ⟨gb10, 0, none⟩ = some (.int .u8 f0) := blk_cell HBH.out 0
                have hch_1 : Z.cell? ⟨gb10, 1, none⟩ = some (.int .u64 0) := blk_cell HBH.out 1
                have hch_2 : Z.cell? ⟨gb10, 2, none⟩ = some (.int .i64 0) := blk_cell HBH.out 2
                have hch_3 : Z.cell? ⟨gb10, 3, none⟩ = some (.string (⟨#[]⟩ : ByteArray)) := blk_cell HBH.out 3
                have hch_4 : Z.cell? ⟨gb10, 4, none⟩ = some (.int .u64 0) := blk_cell HBH.out 4
                have hfh_0 := blk_frozen HBH.out 0
                have hfh_1 := blk_frozen HBH.out 1
                have hfh_2 := blk_frozen HBH.out 2
                have hfh_3 := blk_frozen HBH.out 3
                have hfh_4 := blk_frozen HBH.out 4
                go_upto_region 18 with (fail)
                clear hci_0 hfi_0 hci_1 hfi_1 hci_2 hfi_2 hci_3 hfi_3 hci_4 hfi_4
                clear hch_0 hfh_0 hch_1 hfh_1 hch_2 hfh_2 hch_3 hfh_3 hch_4 hfh_4
                clear HBI
                have NE9 := NE9x10
                change Code.wp _ _ _ _ (setV Z gb10 f0 U IV SV 0)
                have hT9 : Ty Z gb10 31 := Ty.of HBH.out
                have HL_ := Aside0.mk (setV_Le (x0 := f0) (x1 := U) (x2 := IV) (s := SV) (x4 := 0) HL.out hT9)
                have HW_ := Aside0.mk (And.intro (RowB.setV (x0 := f0) (x1 := U) (x2 := IV) (s := SV) (x4 := 0) HW.out.1 hT9) HW.out.2)
                have HVA_ := Aside0.mk (setV_VR (x0 := f0) (x1 := U) (x2 := IV) (s := SV) (x4 := 0) HVA.out HGE10.out)
                have HB_ := Aside0.mk (setV_below (x0 := f0) (x1 := U) (x2 := IV) (s := SV) (x4 := 0) HB.out (Nat.le_trans GEW2.out HGE10.out))
                have hbk := setV_blk (x0 := f0) (x1 := U) (x2 := IV) (s := SV) (x4 := 0) HBH.out
                have HSZ_ := Aside0.mk (show w4.heap.size ≤ (setV Z gb10 f0 U IV SV 0).heap.size by rw [setV_size]; exact HSZ.out)
                have HBG_ := Aside0.mk ((setV_ne (x0 := f0) (x1 := U) (x2 := IV) (s := SV) (x4 := 0) (w := Z) (b := gb10) (show gb9 ≠ gb10 from NE9.out)).trans HBG.out)
                clear HL HW HVA HB HSZ hT9 HBH HBG
                generalize setV Z gb10 f0 U IV SV 0 = Z2 at HL_ HW_ HVA_ HB_ HSZ_ hbk HBG_ ⊢
                have HL := HL_
                clear HL_
                have HW := HW_
                clear HW_
                have HVA := HVA_
                clear HVA_
                have HB := HB_
                clear HB_
                have HSZ := HSZ_
                clear HSZ_
                have HBG := HBG_
                clear HBG_
                have HBH := Aside0.mk hbk
                clear hbk
                have hcg_0 : Z2.cell? ⟨gb9, 0, none⟩ = some (.int .u8 f0) := blk_cell HBG.out 0
                have hcg_1 : Z2.cell? ⟨gb9, 1, none⟩ = some (.int .u64 U) := blk_cell HBG.out 1
                have hcg_2 : Z2.cell? ⟨gb9, 2, none⟩ = some (.int .i64 IV) := blk_cell HBG.out 2
                have hcg_3 : Z2.cell? ⟨gb9, 3, none⟩ = some (.string SV) := blk_cell HBG.out 3
                have hcg_4 : Z2.cell? ⟨gb9, 4, none⟩ = some (.int .u64 0) := blk_cell HBG.out 4
                have hfg_0 := blk_frozen HBG.out 0
                have hfg_1 := blk_frozen HBG.out 1
                have hfg_2 := blk_frozen HBG.out 2
                have hfg_3 := blk_frozen HBG.out 3
                have hfg_4 := blk_frozen HBG.out 4
                have hch_0 : Z2.cell? ⟨gb10, 0, none⟩ = some (.int .u8 f0) := blk_cell HBH.out 0
                have hch_1 : Z2.cell? ⟨gb10, 1, none⟩ = some (.int .u64 U) := blk_cell HBH.out 1
                have hch_2 : Z2.cell? ⟨gb10, 2, none⟩ = some (.int .i64 IV) := blk_cell HBH.out 2
                have hch_3 : Z2.cell? ⟨gb10, 3, none⟩ = some (.string SV) := blk_cell HBH.out 3
                have hch_4 : Z2.cell? ⟨gb10, 4, none⟩ = some (.int .u64 0) := blk_cell HBH.out 4
                have hfh_0 := blk_frozen HBH.out 0
                have hfh_1 := blk_frozen HBH.out 1
                have hfh_2 := blk_frozen HBH.out 2
                have hfh_3 := blk_frozen HBH.out 3
                have hfh_4 := blk_frozen HBH.out 4
                generalize hrl : rest.length = RL
                have HRL := Aside0.mk hrl
                clear hrl
                go_wp2_with (first | (go_at_call 11; (with_reducible refine (lens_Rest g4 g4 _ Z2 HL.out).mono ?_); rintro e w71 ⟨rfl, rfl⟩; rw [HEQ.out.2, HRL.out]))
                go_roundg (gk - 1)
                case measure => have := HI.out.2.2; omega
                case rel => exact ⟨i + 1, (qtake st f0 f4).2, true, rest, A5, RL, c5, by first | rfl | rw [hi1.out], rfl, rfl, ⟨HRL.out.symm⟩, HH, ⟨by have := HI.out; omega, by have := HI.out; omega, by have := HI.out; omega⟩, HL, HW, HVA, HB, HSZ⟩
              · exact absurd hH (by simp)
          | false =>
            rw [if_neg (by decide)] at hH
            split at hH
            · rename_i heq
              have HH := Aside0.mk hH
              have HEQ := Aside0.mk heq
              clear hH heq
              have HSZW := HSZ
              go_upto_region 9 with (first | ((with_reducible refine gate_dst (N := 8) rfl ?_); (try (refine gate_guard (by rfl) ?_; dsimp only)); refine box_event ?hg (N := 8) ?hd (cs := #[.int .u8 0, .int .u64 0, .int .i64 0, .string (⟨#[]⟩ : ByteArray), .int .u64 0]) (t := 31) ?hr ?_; (case hd => rfl); (case hg => rfl); (case hr => first | (go_simp; done) | (go_simp; rfl)); intro gb8 hg wb hbox hb; have BK := Aside0.mk hbox; have GEB := Aside0.mk (Nat.le_of_eq hg.symm : wr.heap.size ≤ gb8); have n_ := Aside0.mk (HL.out.below hb); clear HL; have HL := n_; clear n_; have n_ := Aside0.mk (And.intro (HW.out.1.move fun b cur _ hc => hb.block b (blk_lt hc)) HW.out.2); clear HW; have HW := n_; clear n_; have n_ := Aside0.mk (HVA.out.below hb); clear HVA; have HVA := n_; clear n_; have n_ := Aside0.mk (below_step HB.out hb); clear HB; have HB := n_; clear n_; have hcz_0 : wb.cell? ⟨gb8, 0, none⟩ = some (.int .u8 0) := blk_cell hbox 0; have hfz_0 := blk_frozen hbox 0; have hcz_1 : wb.cell? ⟨gb8, 1, none⟩ = some (.int .u64 0) := blk_cell hbox 1; have hfz_1 := blk_frozen hbox 1; have hcz_2 : wb.cell? ⟨gb8, 2, none⟩ = some (.int .i64 0) := blk_cell hbox 2; have hfz_2 := blk_frozen hbox 2; have hcz_3 : wb.cell? ⟨gb8, 3, none⟩ = some (.string (⟨#[]⟩ : ByteArray)) := blk_cell hbox 3; have hfz_3 := blk_frozen hbox 3; have hcz_4 : wb.cell? ⟨gb8, 4, none⟩ = some (.int .u64 0) := blk_cell hbox 4; have hfz_4 := blk_frozen hbox 4; clear hx0 hx1 hx2 hx3 hx4; have n_ := Aside0.mk (Nat.le_trans HSZ.out hb.size); clear HSZ; have HSZ := n_; clear n_; clear hbox hb hg))
              change Code.wp _ _ _ _ (setV wb gb8 f0 f1 f2 f3 f4)
              have hT9 : Ty wb gb8 31 := Ty.of BK.out
              have HGE8 := Aside0.mk (show w4.heap.size ≤ gb8 by have := GEB.out; have := HSZW.out; omega)
              have HL_ := Aside0.mk (setV_Le (x0 := f0) (x1 := f1) (x2 := f2) (s := f3) (x4 := f4) HL.out hT9)
              have HW_ := Aside0.mk (And.intro (RowB.setV (x0 := f0) (x1 := f1) (x2 := f2) (s := f3) (x4 := f4) HW.out.1 hT9) HW.out.2)
              have HVA_ := Aside0.mk (setV_VR (x0 := f0) (x1 := f1) (x2 := f2) (s := f3) (x4 := f4) HVA.out HGE8.out)
              have HB_ := Aside0.mk (setV_below (x0 := f0) (x1 := f1) (x2 := f2) (s := f3) (x4 := f4) HB.out (Nat.le_trans GEW2.out HGE8.out))
              have hbk := setV_blk (x0 := f0) (x1 := f1) (x2 := f2) (s := f3) (x4 := f4) BK.out
              have HSZ_ := Aside0.mk (show w4.heap.size ≤ (setV wb gb8 f0 f1 f2 f3 f4).heap.size by rw [setV_size]; exact HSZ.out)
              clear HSZW GEB 
              clear hcz_0 hfz_0 hcz_1 hfz_1 hcz_2 hfz_2 hcz_3 hfz_3 hcz_4 hfz_4
              clear HL HW HVA HB HSZ hT9 BK 
              generalize setV wb gb8 f0 f1 f2 f3 f4 = W at HL_ HW_ HVA_ HB_ HSZ_ hbk  ⊢
              have HL := HL_
              clear HL_
              have HW := HW_
              clear HW_
              have HVA := HVA_
              clear HVA_
              have HB := HB_
              clear HB_
              have HSZ := HSZ_
              clear HSZ_
              have HBK := Aside0.mk hbk
              clear hbk
              have hcw_0 : W.cell? ⟨gb8, 0, none⟩ = some (.int .u8 f0) := blk_cell HBK.out 0
              have hcw_1 : W.cell? ⟨gb8, 1, none⟩ = some (.int .u64 f1) := blk_cell HBK.out 1
              have hcw_2 : W.cell? ⟨gb8, 2, none⟩ = some (.int .i64 f2) := blk_cell HBK.out 2
              have hcw_3 : W.cell? ⟨gb8, 3, none⟩ = some (.string f3) := blk_cell HBK.out 3
              have hcw_4 : W.cell? ⟨gb8, 4, none⟩ = some (.int .u64 f4) := blk_cell HBK.out 4
              have hfw_0 := blk_frozen HBK.out 0
              have hfw_1 := blk_frozen HBK.out 1
              have hfw_2 := blk_frozen HBK.out 2
              have hfw_3 := blk_frozen HBK.out 3
              have hfw_4 := blk_frozen HBK.out 4
              go_upto_region 10 with (first
                | (go_at_call 9; (with_reducible refine (law_take f0 f1 f2 f4 f3 HGD.out.1.1.1 HGD.out.1.1.2 HGD.out.1.2.1 HGD.out.1.2.2 g4 g4 st W HL.out (Nat.lt_of_lt_of_le G4S.out HSZ.out)).mono ?_); rintro e w32 ⟨rfl, hd⟩; simp only [HEQ.out.1]; have n_ := Aside0.mk (And.intro (HW.out.1.keep hd.2 (fun cur e => absurd ((Ty.of e).eq HL.out.ty) (by decide))) HW.out.2); clear HW; have HW := n_; clear n_; have n_ := Aside0.mk (HVA.out.farL hd HL.out); clear HVA; have HVA := n_; clear n_; have n_ := Aside0.mk (hd.blkT HL.out HBK.out (by decide)); clear HBK; have HBK := n_; clear n_; have n_ := Aside0.mk (Nat.le_trans HSZ.out hd.2.size); clear HSZ; have HSZ := n_; clear n_; have n_ := Aside0.mk (hd.law HB.out G4W.out); clear HB; have HB := n_; clear n_; have n_ := Aside0.mk (hd.1); clear HL; have HL := n_; clear n_; clear hcw_0 hfw_0 hcw_1 hfw_1 hcw_2 hfw_2 hcw_3 hfw_3 hcw_4 hfw_4; have hcw_0 : w32.cell? ⟨gb8, 0, none⟩ = some (.int .u8 f0) := blk_cell HBK.out 0; have hcw_1 : w32.cell? ⟨gb8, 1, none⟩ = some (.int .u64 f1) := blk_cell HBK.out 1; have hcw_2 : w32.cell? ⟨gb8, 2, none⟩ = some (.int .i64 f2) := blk_cell HBK.out 2; have hcw_3 : w32.cell? ⟨gb8, 3, none⟩ = some (.string f3) := blk_cell HBK.out 3; have hcw_4 : w32.cell? ⟨gb8, 4, none⟩ = some (.int .u64 f4) := blk_cell HBK.out 4; have hfw_0 := blk_frozen HBK.out 0; have hfw_1 := blk_frozen HBK.out 1; have hfw_2 := blk_frozen HBK.out 2; have hfw_3 := blk_frozen HBK.out 3; have hfw_4 := blk_frozen HBK.out 4; clear hd)
                | ((with_reducible refine gate_dst (N := 9) rfl ?_); (try (refine gate_guard (by rfl) ?_; dsimp only)); refine box_event ?hg (N := 9) ?hd (cs := #[.int .u8 0, .int .u64 0, .int .i64 0, .string (⟨#[]⟩ : ByteArray), .int .u64 0]) (t := 31) ?hr ?_; (case hd => rfl); (case hg => rfl); (case hr => first | (go_simp; done) | (go_simp; rfl)); intro gb9 hg wb hbox hb; have BK := Aside0.mk hbox; have GEB := Aside0.mk (Nat.le_of_eq hg.symm : w32.heap.size ≤ gb9); have n_ := Aside0.mk (HL.out.below hb); clear HL; have HL := n_; clear n_; have n_ := Aside0.mk (And.intro (HW.out.1.move fun b cur _ hc => hb.block b (blk_lt hc)) HW.out.2); clear HW; have HW := n_; clear n_; have n_ := Aside0.mk (HVA.out.below hb); clear HVA; have HVA := n_; clear n_; have n_ := Aside0.mk (below_step HB.out hb); clear HB; have HB := n_; clear n_; have hcz_0 : wb.cell? ⟨gb9, 0, none⟩ = some (.int .u8 0) := blk_cell hbox 0; have hfz_0 := blk_frozen hbox 0; have hcz_1 : wb.cell? ⟨gb9, 1, none⟩ = some (.int .u64 0) := blk_cell hbox 1; have hfz_1 := blk_frozen hbox 1; have hcz_2 : wb.cell? ⟨gb9, 2, none⟩ = some (.int .i64 0) := blk_cell hbox 2; have hfz_2 := blk_frozen hbox 2; have hcz_3 : wb.cell? ⟨gb9, 3, none⟩ = some (.string (⟨#[]⟩ : ByteArray)) := blk_cell hbox 3; have hfz_3 := blk_frozen hbox 3; have hcz_4 : wb.cell? ⟨gb9, 4, none⟩ = some (.int .u64 0) := blk_cell hbox 4; have hfz_4 := blk_frozen hbox 4; have HSZW := HSZ; have n_ := Aside0.mk (Nat.le_trans HSZ.out hb.size); clear HSZ; have HSZ := n_; clear n_; clear hcw_0 hfw_0 hcw_1 hfw_1 hcw_2 hfw_2 hcw_3 hfw_3 hcw_4 hfw_4; have HBKLT := Aside0.mk (blk_lt HBK.out); have n_ := Aside0.mk ((hb.block gb8 (blk_lt HBK.out)).trans HBK.out); clear HBK; have HBK := n_; clear n_; have hcw_0 : wb.cell? ⟨gb8, 0, none⟩ = some (.int .u8 f0) := blk_cell HBK.out 0; have hcw_1 : wb.cell? ⟨gb8, 1, none⟩ = some (.int .u64 f1) := blk_cell HBK.out 1; have hcw_2 : wb.cell? ⟨gb8, 2, none⟩ = some (.int .i64 f2) := blk_cell HBK.out 2; have hcw_3 : wb.cell? ⟨gb8, 3, none⟩ = some (.string f3) := blk_cell HBK.out 3; have hcw_4 : wb.cell? ⟨gb8, 4, none⟩ = some (.int .u64 f4) := blk_cell HBK.out 4; have hfw_0 := blk_frozen HBK.out 0; have hfw_1 := blk_frozen HBK.out 1; have hfw_2 := blk_frozen HBK.out 2; have hfw_3 := blk_frozen HBK.out 3; have hfw_4 := blk_frozen HBK.out 4; clear hbox hb hg))
              clear hcw_0 hfw_0 hcw_1 hfw_1 hcw_2 hfw_2 hcw_3 hfw_3 hcw_4 hfw_4
              change Code.wp _ _ _ _ (setV wb gb9 f0 0 0 ⟨#[]⟩ 0)
              have hT9 : Ty wb gb9 31 := Ty.of BK.out
              have HGE9 := Aside0.mk (show w4.heap.size ≤ gb9 by have := GEB.out; have := HSZW.out; omega)
              have HL_ := Aside0.mk (setV_Le (x0 := f0) (x1 := 0) (x2 := 0) (s := ⟨#[]⟩) (x4 := 0) HL.out hT9)
              have HW_ := Aside0.mk (And.intro (RowB.setV (x0 := f0) (x1 := 0) (x2 := 0) (s := ⟨#[]⟩) (x4 := 0) HW.out.1 hT9) HW.out.2)
              have HVA_ := Aside0.mk (setV_VR (x0 := f0) (x1 := 0) (x2 := 0) (s := ⟨#[]⟩) (x4 := 0) HVA.out HGE9.out)
              have HB_ := Aside0.mk (setV_below (x0 := f0) (x1 := 0) (x2 := 0) (s := ⟨#[]⟩) (x4 := 0) HB.out (Nat.le_trans GEW2.out HGE9.out))
              have hbk := setV_blk (x0 := f0) (x1 := 0) (x2 := 0) (s := ⟨#[]⟩) (x4 := 0) BK.out
              have HSZ_ := Aside0.mk (show w4.heap.size ≤ (setV wb gb9 f0 0 0 ⟨#[]⟩ 0).heap.size by rw [setV_size]; exact HSZ.out)
              have HBK_ := Aside0.mk ((setV_ne (x0 := f0) (x1 := 0) (x2 := 0) (s := ⟨#[]⟩) (x4 := 0) (w := wb) (b := gb9) (show gb8 ≠ gb9 from by have := HBKLT.out; have := GEB.out; omega)).trans HBK.out)
              have NE8x9 := Aside0.mk (show gb8 ≠ gb9 by have := HBKLT.out; have := GEB.out; omega)
              clear HSZW GEB HBKLT
              clear hcz_0 hfz_0 hcz_1 hfz_1 hcz_2 hfz_2 hcz_3 hfz_3 hcz_4 hfz_4
              clear HL HW HVA HB HSZ hT9 BK HBK
              generalize setV wb gb9 f0 0 0 ⟨#[]⟩ 0 = X at HL_ HW_ HVA_ HB_ HSZ_ hbk HBK_ ⊢
              have HL := HL_
              clear HL_
              have HW := HW_
              clear HW_
              have HVA := HVA_
              clear HVA_
              have HB := HB_
              clear HB_
              have HSZ := HSZ_
              clear HSZ_
              have HBK := HBK_
              clear HBK_
              have HBG := Aside0.mk hbk
              clear hbk
              have hcw_0 : X.cell? ⟨gb8, 0, none⟩ = some (.int .u8 f0) := blk_cell HBK.out 0
              have hcw_1 : X.cell? ⟨gb8, 1, none⟩ = some (.int .u64 f1) := blk_cell HBK.out 1
              have hcw_2 : X.cell? ⟨gb8, 2, none⟩ = some (.int .i64 f2) := blk_cell HBK.out 2
              have hcw_3 : X.cell? ⟨gb8, 3, none⟩ = some (.string f3) := blk_cell HBK.out 3
              have hcw_4 : X.cell? ⟨gb8, 4, none⟩ = some (.int .u64 f4) := blk_cell HBK.out 4
              have hfw_0 := blk_frozen HBK.out 0
              have hfw_1 := blk_frozen HBK.out 1
              have hfw_2 := blk_frozen HBK.out 2
              have hfw_3 := blk_frozen HBK.out 3
              have hfw_4 := blk_frozen HBK.out 4
              go_upto_region 11 with (first | ((with_reducible refine gate_dst (N := 10) rfl ?_); (try (refine gate_guard (by rfl) ?_; dsimp only)); refine box_event ?hg (N := 10) ?hd (cs := #[.int .u8 0, .int .u64 0, .int .i64 0, .string (⟨#[]⟩ : ByteArray), .int .u64 0]) (t := 31) ?hr ?_; (case hd => rfl); (case hg => rfl); (case hr => first | (go_simp; done) | (go_simp; rfl)); intro gb10 hg wc hbox hb; have BK := Aside0.mk hbox; have GEB := Aside0.mk (Nat.le_of_eq hg.symm : X.heap.size ≤ gb10); have n_ := Aside0.mk (HL.out.below hb); clear HL; have HL := n_; clear n_; have n_ := Aside0.mk (And.intro (HW.out.1.move fun b cur _ hc => hb.block b (blk_lt hc)) HW.out.2); clear HW; have HW := n_; clear n_; have n_ := Aside0.mk (HVA.out.below hb); clear HVA; have HVA := n_; clear n_; have n_ := Aside0.mk (below_step HB.out hb); clear HB; have HB := n_; clear n_; have hcz_0 : wc.cell? ⟨gb10, 0, none⟩ = some (.int .u8 0) := blk_cell hbox 0; have hfz_0 := blk_frozen hbox 0; have hcz_1 : wc.cell? ⟨gb10, 1, none⟩ = some (.int .u64 0) := blk_cell hbox 1; have hfz_1 := blk_frozen hbox 1; have hcz_2 : wc.cell? ⟨gb10, 2, none⟩ = some (.int .i64 0) := blk_cell hbox 2; have hfz_2 := blk_frozen hbox 2; have hcz_3 : wc.cell? ⟨gb10, 3, none⟩ = some (.string (⟨#[]⟩ : ByteArray)) := blk_cell hbox 3; have hfz_3 := blk_frozen hbox 3; have hcz_4 : wc.cell? ⟨gb10, 4, none⟩ = some (.int .u64 0) := blk_cell hbox 4; have hfz_4 := blk_frozen hbox 4; have HSZW := HSZ; have n_ := Aside0.mk (Nat.le_trans HSZ.out hb.size); clear HSZ; have HSZ := n_; clear n_; clear hcw_0 hfw_0 hcw_1 hfw_1 hcw_2 hfw_2 hcw_3 hfw_3 hcw_4 hfw_4; have HBKLT := Aside0.mk (blk_lt HBK.out); have n_ := Aside0.mk ((hb.block gb8 (blk_lt HBK.out)).trans HBK.out); clear HBK; have HBK := n_; clear n_; have HBGLT := Aside0.mk (blk_lt HBG.out); have n_ := Aside0.mk ((hb.block gb9 (blk_lt HBG.out)).trans HBG.out); clear HBG; have HBG := n_; clear n_; have hcw_0 : wc.cell? ⟨gb8, 0, none⟩ = some (.int .u8 f0) := blk_cell HBK.out 0; have hcw_1 : wc.cell? ⟨gb8, 1, none⟩ = some (.int .u64 f1) := blk_cell HBK.out 1; have hcw_2 : wc.cell? ⟨gb8, 2, none⟩ = some (.int .i64 f2) := blk_cell HBK.out 2; have hcw_3 : wc.cell? ⟨gb8, 3, none⟩ = some (.string f3) := blk_cell HBK.out 3; have hcw_4 : wc.cell? ⟨gb8, 4, none⟩ = some (.int .u64 f4) := blk_cell HBK.out 4; have hfw_0 := blk_frozen HBK.out 0; have hfw_1 := blk_frozen HBK.out 1; have hfw_2 := blk_frozen HBK.out 2; have hfw_3 := blk_frozen HBK.out 3; have hfw_4 := blk_frozen HBK.out 4; clear hbox hb hg))
              clear hcw_0 hfw_0 hcw_1 hfw_1 hcw_2 hfw_2 hcw_3 hfw_3 hcw_4 hfw_4
              change Code.wp _ _ _ _ (setV wc gb10 f0 0 0 ⟨#[]⟩ 0)
              have hT9 : Ty wc gb10 31 := Ty.of BK.out
              have HGE10 := Aside0.mk (show w4.heap.size ≤ gb10 by have := GEB.out; have := HSZW.out; omega)
              have HL_ := Aside0.mk (setV_Le (x0 := f0) (x1 := 0) (x2 := 0) (s := ⟨#[]⟩) (x4 := 0) HL.out hT9)
              have HW_ := Aside0.mk (And.intro (RowB.setV (x0 := f0) (x1 := 0) (x2 := 0) (s := ⟨#[]⟩) (x4 := 0) HW.out.1 hT9) HW.out.2)
              have HVA_ := Aside0.mk (setV_VR (x0 := f0) (x1 := 0) (x2 := 0) (s := ⟨#[]⟩) (x4 := 0) HVA.out HGE10.out)
              have HB_ := Aside0.mk (setV_below (x0 := f0) (x1 := 0) (x2 := 0) (s := ⟨#[]⟩) (x4 := 0) HB.out (Nat.le_trans GEW2.out HGE10.out))
              have hbk := setV_blk (x0 := f0) (x1 := 0) (x2 := 0) (s := ⟨#[]⟩) (x4 := 0) BK.out
              have HSZ_ := Aside0.mk (show w4.heap.size ≤ (setV wc gb10 f0 0 0 ⟨#[]⟩ 0).heap.size by rw [setV_size]; exact HSZ.out)
              have HBK_ := Aside0.mk ((setV_ne (x0 := f0) (x1 := 0) (x2 := 0) (s := ⟨#[]⟩) (x4 := 0) (w := wc) (b := gb10) (show gb8 ≠ gb10 from by have := HBKLT.out; have := GEB.out; omega)).trans HBK.out)
              have NE8x10 := Aside0.mk (show gb8 ≠ gb10 by have := HBKLT.out; have := GEB.out; omega)
              have HBG_ := Aside0.mk ((setV_ne (x0 := f0) (x1 := 0) (x2 := 0) (s := ⟨#[]⟩) (x4 := 0) (w := wc) (b := gb10) (show gb9 ≠ gb10 from by have := HBGLT.out; have := GEB.out; omega)).trans HBG.out)
              have NE9x10 := Aside0.mk (show gb9 ≠ gb10 by have := HBGLT.out; have := GEB.out; omega)
              clear HSZW GEB HBKLT HBGLT
              clear hcz_0 hfz_0 hcz_1 hfz_1 hcz_2 hfz_2 hcz_3 hfz_3 hcz_4 hfz_4
              clear HL HW HVA HB HSZ hT9 BK HBK HBG
              generalize setV wc gb10 f0 0 0 ⟨#[]⟩ 0 = Y at HL_ HW_ HVA_ HB_ HSZ_ hbk HBK_ HBG_ ⊢
              have HL := HL_
              clear HL_
              have HW := HW_
              clear HW_
              have HVA := HVA_
              clear HVA_
              have HB := HB_
              clear HB_
              have HSZ := HSZ_
              clear HSZ_
              have HBK := HBK_
              clear HBK_
              have HBG := HBG_
              clear HBG_
              have HBH := Aside0.mk hbk
              clear hbk
              have hcg_0 : Y.cell? ⟨gb9, 0, none⟩ = some (.int .u8 f0) := blk_cell HBG.out 0
              have hcg_1 : Y.cell? ⟨gb9, 1, none⟩ = some (.int .u64 0) := blk_cell HBG.out 1
              have hcg_2 : Y.cell? ⟨gb9, 2, none⟩ = some (.int .i64 0) := blk_cell HBG.out 2
              have hcg_3 : Y.cell? ⟨gb9, 3, none⟩ = some (.string (⟨#[]⟩ : ByteArray)) := blk_cell HBG.out 3
              have hcg_4 : Y.cell? ⟨gb9, 4, none⟩ = some (.int .u64 0) := blk_cell HBG.out 4
              have hfg_0 := blk_frozen HBG.out 0
              have hfg_1 := blk_frozen HBG.out 1
              have hfg_2 := blk_frozen HBG.out 2
              have hfg_3 := blk_frozen HBG.out 3
              have hfg_4 := blk_frozen HBG.out 4
              have hch_0 : Y.cell? ⟨gb10, 0, none⟩ = some (.int .u8 f0) := blk_cell HBH.out 0
              have hch_1 : Y.cell? ⟨gb10, 1, none⟩ = some (.int .u64 0) := blk_cell HBH.out 1
              have hch_2 : Y.cell? ⟨gb10, 2, none⟩ = some (.int .i64 0) := blk_cell HBH.out 2
              have hch_3 : Y.cell? ⟨gb10, 3, none⟩ = some (.string (⟨#[]⟩ : ByteArray)) := blk_cell HBH.out 3
              have hch_4 : Y.cell? ⟨gb10, 4, none⟩ = some (.int .u64 0) := blk_cell HBH.out 4
              have hfh_0 := blk_frozen HBH.out 0
              have hfh_1 := blk_frozen HBH.out 1
              have hfh_2 := blk_frozen HBH.out 2
              have hfh_3 := blk_frozen HBH.out 3
              have hfh_4 := blk_frozen HBH.out 4
              go_wp2_with (first | (go_at_call 11; (with_reducible refine (lens_Rest g4 g4 _ Y HL.out).mono ?_); rintro e w71 ⟨rfl, rfl⟩; rw [HEQ.out.2]))
              go_roundg (gk - 1)
              case measure => have := HI.out.2.2; omega
              case rel => exact ⟨i + 1, (qtake st f0 f4).2, false, wt, A, n, c, by first | rfl | rw [hi1.out], rfl, rfl, HN, HH, ⟨by have := HI.out; omega, by have := HI.out; omega, by have := HI.out; omega⟩, HL, HW, HVA, HB, HSZ⟩
            · exact absurd hH (by simp)
        · exact absurd hH (by simp)
      · have hH := HA.out
        rw [List.drop_of_length_le (by have := HL3.out; omega)] at hH
        simp only [arrearslaw08_QuillTakes.go, Option.some.injEq, Prod.mk.injEq] at hH
        obtain ⟨e1, e2, e3⟩ := hH
        subst e1 e2 e3
        clear HA HI
        by_cases hle : lend st = true
        · have he := HEND.out
          rw [hle] at he
          have he1 : ok = true ∧ wt = [] := by simpa using he.symm
          obtain ⟨rfl, rfl⟩ := he1
          have hn0 : n = 0 := HN.out
          subst hn0
          clear he
          go_wp2_with (first | (go_at_call 12; refine (lens_End g4 g4 st wr HL.out).mono ?_; rintro e w79 ⟨rfl, rfl⟩; rw [if_pos hle]))
          go_ret
          exact ⟨rfl, HB.out⟩
        · have he := HEND.out
          rw [show lend st = false by simpa using hle] at he
          have HLQ := Aside0.mk (Laid.below HLD.out HB.out)
          cases ok with
          | true =>
            have hne : ¬ ((n : Int) = 0) := by
              intro e
              have h0 : wt = [] := List.eq_nil_of_length_eq_zero (by have := HN.out; omega)
              rw [h0] at he
              exact absurd he (by decide)
            have hne2 : ((n : Int) == 0) = false := by simpa using hne
            clear he
            go_wp2_with (first | (go_at_call 12; refine (lens_End g4 g4 st wr HL.out).mono ?_; rintro e w79 ⟨rfl, rfl⟩; rw [if_neg hle]; simp only [formErr]) | (go_at_call 13; have hC := api_Code.calls (some 2) 2 wr HLQ.out rfl; rw [errW_some] at hC; refine hC.mono ?_; clear hC; rintro e w80 ⟨rfl, hb⟩; have n_ := Aside0.mk (below_step HB.out hb); clear HB; have HB := n_; clear n_; clear hb))
            go_ret
            exact ⟨rfl, HB.out⟩
          | false =>
            clear he
            go_wp2_with (first | (go_at_call 12; refine (lens_End g4 g4 st wr HL.out).mono ?_; rintro e w79 ⟨rfl, rfl⟩; rw [if_neg hle]; simp only [formErr]) | (go_at_call 13; have hC := api_Code.calls (some 2) 2 wr HLQ.out rfl; rw [errW_some] at hC; refine hC.mono ?_; clear hC; rintro e w80 ⟨rfl, hb⟩; have n_ := Aside0.mk (below_step HB.out hb); clear HB; have HB := n_; clear n_; clear hb))
            go_ret
            exact ⟨rfl, HB.out⟩
  · rw [if_neg hg] at h
    exact absurd h (by simp)
end


end Go.Proofs.YtdojgjbiilnjpaaDoor.PQuillTakes
