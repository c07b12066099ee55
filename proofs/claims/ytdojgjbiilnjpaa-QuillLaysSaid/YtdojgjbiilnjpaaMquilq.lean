import Derived.Test.YtdojgjbiilnjpaaMquilp
set_option linter.unusedVariables false
set_option linter.unusedSimpArgs false
namespace Go.Proofs.Ytdojgjbiilnjpaa.M
open Go.RowKit Go.Proofs.YtdojgjbiilnjpaaW.PrintWords Go.Proofs.YtdojgjbiilnjpaaW.PrintLast Go.Proofs.YtdojgjbiilnjpaaW.PrintMore
theorem QDone.pre {w w1 w2 : World} {g : Nat} {v : Value} {l : List Int} (hb : Below w.heap.size w w1) (h : QDone w1 g v l w2) : QDone w g v l w2 :=
  QDone.trans ((KeepQ.refl w g v.ownBlock).below hb) (Since.refl w v) h
/-- A value's bytes. -/
def qlay (k u i : Int) (s : ByteArray) : List Int := if k % 4 = 0 then nlay u.toNat 0 else if k % 4 = 1 then qint i else if k % 4 = 2 then nlay (if u % 2 = 1 then 1 else 0) 0 else nlay s.size 0 ++ bytesOf s
set_option maxHeartbeats 4000000 in
set_option maxRecDepth 100000 in
theorem law_lay (k u i m : Int) (s : ByteArray) (hk0 : 0 ≤ k) (hk1 : k ≤ 255) (hu0 : 0 ≤ u) (hu1 : u ≤ 18446744073709551615) (hi0 : -9223372036854775808 ≤ i) (hi1 : i ≤ 9223372036854775807) (hs : s.size ≤ 100000) (g : Nat) (v : Value) (l : List Int) (w : World) (hl : l.length ≤ 1000000) (hq : Qu w g v l) :
    Calls Try.prog 16 #[.pointer (some ⟨g, 0, none⟩), .agg #[.int .u8 k, .int .u64 u, .int .i64 i, .string s, .int .u64 m]] w fun e w' => e = .returned (.pointer (some ⟨g, 0, none⟩)) ∧ QDone w g v (l ++ qlay k u i s) w' := by
  have HQ := Aside0.mk hq
  have hkt : Int.tmod k 4 = k % 4 := Int.tmod_eq_emod_of_nonneg hk0
  have hut : Int.tmod u 2 = u % 2 := Int.tmod_eq_emod_of_nonneg hu0
  have hkk : k % 4 = 0 ∨ k % 4 = 1 ∨ k % 4 = 2 ∨ k % 4 = 3 := by omega
  clear hq
  unfold qlay
  rcases hkk with hk | hk | hk | hk
  · rw [if_pos hk]
    have HC := Aside0.mk (fun W (hb : Below w.heap.size w W) => quill_Uint u hu0 hu1 g v l W hl (HQ.out.below hb))
    go_enter Try.func16, Try.ntmps16
    go_wp2_with (go_at_call 8; refine (HC.out _ (by repeat (first | exact Below.refl _ _ | apply below_alloc | apply pw_below_drewN))).mono ?_; rintro e w5 ⟨rfl, hd⟩; have HD := Aside0.mk (QDone.pre (w := w) (by repeat (first | exact Below.refl _ _ | apply below_alloc | apply pw_below_drewN)) hd); clear hd)
    go_ret
    exact ⟨rfl, HD.out⟩
  · rw [if_neg (by omega), if_pos hk]
    have HC := Aside0.mk (fun W (hb : Below w.heap.size w W) => quill_Int i hi0 hi1 g v l W hl (HQ.out.below hb))
    go_enter Try.func16, Try.ntmps16
    go_wp2_with (go_at_call 10; refine (HC.out _ (by repeat (first | exact Below.refl _ _ | apply below_alloc | apply pw_below_drewN))).mono ?_; rintro e w5 ⟨rfl, hd⟩; have HD := Aside0.mk (QDone.pre (w := w) (by repeat (first | exact Below.refl _ _ | apply below_alloc | apply pw_below_drewN)) hd); clear hd)
    go_ret
    exact ⟨rfl, HD.out⟩
  · rw [if_neg (by omega), if_neg (by omega), if_pos hk]
    have HC := Aside0.mk (fun W b (hb : Below w.heap.size w W) => quill_Flag b g v l W hl (HQ.out.below hb))
    by_cases hu : u % 2 = 1
    · rw [if_pos hu]
      go_enter Try.func16, Try.ntmps16
      go_wp2_with (go_at_call 30; refine (HC.out _ true (by repeat (first | exact Below.refl _ _ | apply below_alloc | apply pw_below_drewN))).mono ?_; rintro e w5 ⟨rfl, hd⟩; have HD := Aside0.mk (QDone.pre (w := w) (by repeat (first | exact Below.refl _ _ | apply below_alloc | apply pw_below_drewN)) hd); clear hd)
      go_ret
      exact ⟨rfl, by simpa using HD.out⟩
    · rw [if_neg hu]
      have hub : (u % 2 == 1) = false := by simp [hu]
      go_enter Try.func16, Try.ntmps16
      go_wp2_with (go_at_call 30; refine (HC.out _ false (by repeat (first | exact Below.refl _ _ | apply below_alloc | apply pw_below_drewN))).mono ?_; rintro e w5 ⟨rfl, hd⟩; have HD := Aside0.mk (QDone.pre (w := w) (by repeat (first | exact Below.refl _ _ | apply below_alloc | apply pw_below_drewN)) hd); clear hd)
      go_ret
      exact ⟨rfl, by simpa using HD.out⟩
  · rw [if_neg (by omega), if_neg (by omega), if_neg (by omega), ← List.append_assoc]
    have HC := Aside0.mk (fun W (hb : Below w.heap.size w W) => quill_Text s hs g v l W hl (HQ.out.below hb))
    go_enter Try.func16, Try.ntmps16
    go_wp2_with (go_at_call 19; refine (HC.out _ (by repeat (first | exact Below.refl _ _ | apply below_alloc | apply pw_below_drewN))).mono ?_; rintro e w5 ⟨rfl, hd⟩; have HD := Aside0.mk (QDone.pre (w := w) (by repeat (first | exact Below.refl _ _ | apply below_alloc | apply pw_below_drewN)) hd); clear hd)
    go_ret
    exact ⟨rfl, HD.out⟩

end Go.Proofs.Ytdojgjbiilnjpaa.M
