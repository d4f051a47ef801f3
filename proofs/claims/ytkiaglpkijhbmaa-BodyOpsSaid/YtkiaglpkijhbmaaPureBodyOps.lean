/- Of all operators, and numbers, the value is the chapter's (BodyOps): for all texts, and all two 64-bit numbers; no condition. -/
import Derived.Test.YtkiaglpkijhbmaaMath
import Derived.Test.YtkiaglpkijhbmaaQBodyOps
namespace Go.Proofs.Ytkiaglpkijhbmaa.Pure
open Go.RowKit Go.Proofs.Ytkiaglpkijhbmaa.PBodyOps Go.Proofs.YtkiaglpkijhbmaaW.PrintWords Go.Proofs.YtkiaglpkijhbmaaW.PrintLast Go.Proofs.Ytkiaglpkijhbmaa.Math

theorem size_f (a : Int) (h0 : -9223372036854775808 ≤ a) (h1 : a ≤ 9223372036854775807) : horariumref05_size.f a = some (a.natAbs : Int) := by
  unfold horariumref05_size.f
  simp only [u64_wrap]
  by_cases h : a < 0
  · rw [if_pos h]; congr 1; omega
  · rw [if_neg h]; congr 1; omega

theorem divide_f (a b : Int) (ha0 : -9223372036854775808 ≤ a) (ha1 : a ≤ 9223372036854775807) (hb0 : -9223372036854775808 ≤ b) (hb1 : b ≤ 9223372036854775807) (hb : b ≠ 0) :
    horariumref05_divide.f a b = some (wrap64 (a.tdiv b), a.tmod b) := by
  unfold horariumref05_divide.f
  rw [if_neg hb, size_f a ha0 ha1, size_f b hb0 hb1]
  simp only [Option.bind_some, u64_wrap]
  rw [if_neg (by omega)]
  have hq := natAbs_tdiv_le (a.natAbs : Int) (b.natAbs : Int)
  have hm := natAbs_tmod_lt (a.natAbs : Int) (b := (b.natAbs : Int)) (by omega)
  have hq0 : 0 ≤ (a.natAbs : Int).tdiv (b.natAbs : Int) := Int.tdiv_nonneg (by omega) (by omega)
  have hm0 : 0 ≤ (a.natAbs : Int).tmod (b.natAbs : Int) := Int.tmod_nonneg _ (by omega)
  have key : (a < 0 ∨ ¬ a < 0) ∧ (b < 0 ∨ ¬ b < 0) := ⟨by omega, by omega⟩
  rcases key with ⟨h | h, h' | h'⟩
  · rw [if_pos h, if_pos h']
    have e1 : a.tdiv b = (a.natAbs : Int).tdiv (b.natAbs : Int) := by
      rw [show a = -(a.natAbs : Int) by omega, show b = -(b.natAbs : Int) by omega]
      simp [Int.neg_tdiv, Int.tdiv_neg]
    have e2 : a.tmod b = -(a.natAbs : Int).tmod (b.natAbs : Int) := by
      rw [show a = -(a.natAbs : Int) by omega, show b = -(b.natAbs : Int) by omega]
      simp [Int.neg_tmod, Int.tmod_neg]
    rw [e1, e2]
    generalize (a.natAbs : Int).tdiv (b.natAbs : Int) = q at *
    generalize (a.natAbs : Int).tmod (b.natAbs : Int) = m at *
    unfold wrap64
    congr 2 <;> omega
  · rw [if_pos h, if_neg h']
    have e1 : a.tdiv b = -(a.natAbs : Int).tdiv (b.natAbs : Int) := by
      rw [show a = -(a.natAbs : Int) by omega, show b = (b.natAbs : Int) by omega]
      simp [Int.neg_tdiv]
    have e2 : a.tmod b = -(a.natAbs : Int).tmod (b.natAbs : Int) := by
      rw [show a = -(a.natAbs : Int) by omega, show b = (b.natAbs : Int) by omega]
      simp [Int.neg_tmod]
    rw [e1, e2]
    generalize (a.natAbs : Int).tdiv (b.natAbs : Int) = q at *
    generalize (a.natAbs : Int).tmod (b.natAbs : Int) = m at *
    unfold wrap64
    congr 2 <;> omega
  · rw [if_neg h, if_pos h']
    have e1 : a.tdiv b = -(a.natAbs : Int).tdiv (b.natAbs : Int) := by
      rw [show a = (a.natAbs : Int) by omega, show b = -(b.natAbs : Int) by omega]
      simp [Int.tdiv_neg]
    have e2 : a.tmod b = (a.natAbs : Int).tmod (b.natAbs : Int) := by
      rw [show a = (a.natAbs : Int) by omega, show b = -(b.natAbs : Int) by omega]
      simp [Int.tmod_neg]
    rw [e1, e2]
    generalize (a.natAbs : Int).tdiv (b.natAbs : Int) = q at *
    generalize (a.natAbs : Int).tmod (b.natAbs : Int) = m at *
    unfold wrap64
    congr 2 <;> omega
  · rw [if_neg h, if_neg h']
    have e1 : a.tdiv b = (a.natAbs : Int).tdiv (b.natAbs : Int) := by
      rw [show a = (a.natAbs : Int) by omega, show b = (b.natAbs : Int) by omega]
      simp
    have e2 : a.tmod b = (a.natAbs : Int).tmod (b.natAbs : Int) := by
      rw [show a = (a.natAbs : Int) by omega, show b = (b.natAbs : Int) by omega]
      simp
    rw [e1, e2]
    generalize (a.natAbs : Int).tdiv (b.natAbs : Int) = q at *
    generalize (a.natAbs : Int).tmod (b.natAbs : Int) = m at *
    unfold wrap64
    congr 2 <;> omega

theorem truth_f (b : Bool) : body_truth.f b = some (if b = true then 1 else 0) := by
  unfold body_truth.f; split <;> rfl

theorem same (s : ByteArray) (a b : Int) (ha0 : -9223372036854775808 ≤ a) (ha1 : a ≤ 9223372036854775807) (hb0 : -9223372036854775808 ≤ b) (hb1 : b ≤ 9223372036854775807) :
    ∃ r, body_Op.f s a b = some r ∧ horariumref05_Op.f s a b = some r := by
  unfold body_Op.f horariumref05_Op.f
  generalize s.toList = l
  by_cases h1 : l = [43]
  · rw [if_pos h1, if_pos h1]
    refine ⟨_, rfl, ?_⟩
    simp only [u64_wrap]
    congr 1
    apply wrap64_congr; omega
  rw [if_neg h1, if_neg h1]
  by_cases h2 : l = [45]
  · rw [if_pos h2, if_pos h2]
    refine ⟨_, rfl, ?_⟩
    simp only [u64_wrap]
    congr 1
    apply wrap64_congr; omega
  rw [if_neg h2, if_neg h2]
  by_cases h3 : l = [42]
  · rw [if_pos h3, if_pos h3]
    refine ⟨_, rfl, ?_⟩
    simp only [u64_wrap]
    congr 1
    exact wrap64_mod_mul a b
  rw [if_neg h3, if_neg h3]
  by_cases h4 : l = [60]
  · rw [if_pos h4, if_pos h4, truth_f]
    refine ⟨_, rfl, ?_⟩
    by_cases h : a < b <;> simp [h]
  rw [if_neg h4, if_neg h4]
  by_cases h5 : l = [61, 61]
  · rw [if_pos h5, if_pos h5, truth_f]
    refine ⟨_, rfl, ?_⟩
    simp only [u64_wrap]
    by_cases h : a = b
    · subst h; simp
    · rw [if_neg (by omega)]; simp [h]
  rw [if_neg h5, if_neg h5]
  by_cases hb : b = 0
  · rw [if_pos hb]
    refine ⟨_, rfl, ?_⟩
    unfold horariumref05_divide.f
    rw [if_pos hb]
    simp
  · rw [if_neg hb, divide_f a b ha0 ha1 hb0 hb1 hb]
    by_cases h6 : l = [47]
    · rw [if_pos h6, if_pos h6]; exact ⟨_, rfl, rfl⟩
    · rw [if_neg h6, if_neg h6]
      by_cases h7 : l = [37]
      · rw [if_pos h7, if_pos h7]; exact ⟨_, rfl, rfl⟩
      · rw [if_neg h7, if_neg h7]; exact ⟨_, rfl, rfl⟩

theorem BodyOps : horariumlaw05_BodyOps.Pure := by
  intro s a b _ wa wb
  have ba := bounds_i64 wa
  have bb := bounds_i64 wb
  unfold horariumlaw05_BodyOps.f
  have aw : horariumlaw05_awake.f = some true := by decide +kernel
  rw [aw]
  obtain ⟨r, h1, h2⟩ := same s a b ba.1 ba.2 bb.1 bb.2
  simp only [Option.bind_some, if_true, h1, h2, beq_self_eq_true]

end Go.Proofs.Ytkiaglpkijhbmaa.Pure
