/- The pure statement behind the law LateBuckets, over numbers and lists alone. Conditions: those that the printed statement names (each number is of its kind). -/
import Derived.Test.YtjidjobennlfjaaDLateBuckets
set_option linter.unusedVariables false
set_option linter.unusedSimpArgs false
namespace Go.Proofs.Ytjidjobennlfjaa.PLateBuckets
open Go.RowKit Go.Proofs.YtjidjobennlfjaaW.PrintWords Go.Proofs.YtjidjobennlfjaaW.PrintLast Go.Proofs.YtjidjobennlfjaaW.PrintMore

theorem awake_yes : arrearslaw12_awake.f = some true := by decide +kernel
theorem name_ok (b : Int) (h0 : 0 ≤ b) (h1 : b ≤ 255) : late_Name.f b = some (rdOf ByteArray.empty [(⟨#[99, 117, 114, 114, 101, 110, 116]⟩ : ByteArray), (⟨#[103, 114, 97, 99, 101]⟩ : ByteArray), (⟨#[116, 104, 105, 114, 116, 121]⟩ : ByteArray), (⟨#[115, 105, 120, 116, 121]⟩ : ByteArray), (⟨#[110, 105, 110, 101, 116, 121]⟩ : ByteArray), (⟨#[]⟩ : ByteArray)] (mn b 5)) := by
  have : b = 0 ∨ b = 1 ∨ b = 2 ∨ b = 3 ∨ b = 4 ∨ 5 ≤ b := by omega
  rcases this with rfl | rfl | rfl | rfl | rfl | h
  · decide +kernel
  · decide +kernel
  · decide +kernel
  · decide +kernel
  · decide +kernel
  · have hm : mn b 5 = 5 := by unfold mn; split <;> omega
    rw [hm]
    unfold late_Name.f
    have w : wrap64 b = b := by unfold wrap64; omega
    simp only [Option.bind_some]
    rw [w, if_pos (by simpa using h)]
    decide +kernel
theorem bucket_eq (n : Int) : late_Bucket.f n = some (if n ≤ 0 then 0 else if n < 30 then 1 else if n < 60 then 2 else if n < 90 then 3 else 4) := by
  unfold late_Bucket.f
  (repeat' split) <;> rfl
theorem ref_eq (n : Int) (h0 : -9223372036854775808 ≤ n) (h1 : n ≤ 9223372036854775807) : arrearsref12_Bucket.f n = some (if n ≤ 0 then 0 else if n < 30 then 1 else if n < 60 then 2 else if n < 90 then 3 else 4) := by
  unfold arrearsref12_Bucket.f
  by_cases h : n ≤ 0
  · rw [if_pos h, if_pos h]
  · rw [if_neg h, if_neg h]
    congr 1
    have e : Int.tdiv n 30 = n / 30 := Int.tdiv_eq_ediv_of_nonneg (by omega)
    rw [e]
    have w1 : wrap64 (n / 30) = n / 30 := by unfold wrap64; omega
    have w2 : wrap64 (1 + n / 30) = 1 + n / 30 := by unfold wrap64; omega
    rw [w1, w2]
    unfold mn
    (repeat' split) <;> omega
theorem pure_proved : arrearslaw12_LateBuckets.Pure := by
  intro days more b hd hm hb
  unfold arrearslaw12_LateBuckets.f
  rw [awake_yes]
  have w1 : wrap64 more = more := by unfold wrap64; omega
  have hc : -1000 ≤ mn (mx days (-1000)) 1000 ∧ mn (mx days (-1000)) 1000 ≤ 1000 := by unfold mn mx; (repeat' split) <;> omega
  have w2 : wrap64 (mn (mx days (-1000)) 1000 + more) = mn (mx days (-1000)) 1000 + more := by unfold wrap64; omega
  simp only [Option.bind_some, if_true]
  rw [w1, w2]
  generalize mn (mx days (-1000)) 1000 = n at hc
  rw [bucket_eq days, ref_eq days hd.1 hd.2, bucket_eq n, bucket_eq (n + more)]
  simp only [Option.bind_some, if_true]
  rw [if_pos (by (repeat' split) <;> omega), name_ok b hb.1 hb.2]
  have hq : 0 ≤ mn b 5 ∧ mn b 5 ≤ 5 := by unfold mn; split <;> omega
  simp only [Option.bind_some]
  rw [if_pos hq.1, if_pos (by simp; omega)]
  simp only [if_true]
  by_cases c0 : days ≤ 0
  · rw [if_pos c0]; decide +kernel
  rw [if_neg c0]
  by_cases c1 : days < 30
  · rw [if_pos c1]; decide +kernel
  rw [if_neg c1]
  by_cases c2 : days < 60
  · rw [if_pos c2]; decide +kernel
  rw [if_neg c2]
  by_cases c3 : days < 90
  · rw [if_pos c3]; decide +kernel
  rw [if_neg c3]; decide +kernel

end Go.Proofs.Ytjidjobennlfjaa.PLateBuckets
