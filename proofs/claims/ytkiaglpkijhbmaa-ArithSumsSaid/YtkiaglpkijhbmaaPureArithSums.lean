/- Of all two numbers the sum and the product are told, if there are such (ArithSums): for all two 64-bit numbers, no condition. -/
import Derived.Test.YtkiaglpkijhbmaaAArithSums
import Derived.Test.YtkiaglpkijhbmaaQArithSums
namespace Go.Proofs.Ytkiaglpkijhbmaa.Pure
open Go.RowKit Go.Proofs.Ytkiaglpkijhbmaa.PArithSums Go.Proofs.YtkiaglpkijhbmaaW.PrintWords Go.Proofs.YtkiaglpkijhbmaaW.PrintLast Go.Proofs.Ytkiaglpkijhbmaa.Math Go.Proofs.Ytkiaglpkijhbmaa.AArithSums

theorem refsize_f (a : Int) (h0 : -9223372036854775808 ≤ a) (h1 : a ≤ 9223372036854775807) : horariumref01_size.f a = some (a.natAbs : Int) := by
  unfold horariumref01_size.f
  simp only [u64_wrap]
  by_cases h : a < 0
  · rw [if_pos h, wrap64_id (n := a + 1) (by omega) (by omega), wrap64_id (by omega) (by omega)]; congr 1; omega
  · rw [if_neg h]; congr 1; omega

theorem ref_g (s : Bool) (x y m p : Int) (hx : 1 ≤ x) (hx2 : x ≤ 9223372036854775808) (hy : 1 ≤ y) (hm : m = if s = true then 9223372036854775808 else 9223372036854775807) (hp : p = if s = true then -(x * y) else x * y) :
    horariumref01_Mul.g s x y m = some (if -9223372036854775808 ≤ p ∧ p ≤ 9223372036854775807 then (p, true) else (0, false)) := by
  unfold horariumref01_Mul.g
  have hm0 : 0 ≤ m := by rw [hm]; split <;> omega
  have hm1 : m ≤ 9223372036854775808 := by rw [hm]; split <;> omega
  have hq : m / y ≤ m := Int.ediv_le_self _ hm0
  have hq0 : 0 ≤ m / y := Int.ediv_nonneg hm0 (by omega)
  have hxy : x * 1 ≤ x * y := Int.mul_le_mul_of_nonneg_left hy (by omega)
  rw [if_neg (by omega), tdiv_pos hm0, u64_wrap, Int.emod_eq_of_lt hq0 (by omega)]
  have hiff : m / y < x ↔ m < x * y := Int.ediv_lt_iff_lt_mul (by omega)
  generalize x * y = z at *
  by_cases h : m < z
  · rw [if_pos (hiff.2 h), if_neg]
    cases s <;> simp at hm hp <;> omega
  · rw [if_neg (by rw [gt_iff_lt, hiff]; exact h)]
    simp only [u64_wrap]
    cases s
    · simp only [Bool.false_eq_true, if_false] at hm hp ⊢
      subst hp
      rw [if_pos (by omega), Int.emod_eq_of_lt (by omega) (by omega), wrap64_id (by omega) (by omega)]
    · simp only [if_true] at hm hp ⊢
      subst hp
      rw [if_pos (by omega), Int.emod_eq_of_lt (a := z) (by omega) (by omega), Int.emod_eq_of_lt (by omega) (by omega), wrap64_id (n := z - 1) (by omega) (by omega), wrap64_id (n := -(z - 1)) (by omega) (by omega), wrap64_id (by omega) (by omega)]
      congr 2; omega

theorem ref_mul_f (k : Nat) (a b : Int) (ha0 : -9223372036854775808 ≤ a) (ha1 : a ≤ 9223372036854775807) (hb0 : -9223372036854775808 ≤ b) (hb1 : b ≤ 9223372036854775807) : horariumref01_Mul.f k a b = some (mulv a b) := by
  unfold horariumref01_Mul.f
  rw [refsize_f a ha0 ha1, refsize_f b hb0 hb1]
  simp only [Option.bind_some]
  by_cases ha : a = 0
  · subst ha
    rw [if_pos (by simp), mulv_in (by omega) (by omega), Int.zero_mul]
  · rw [if_neg (by omega)]
    by_cases hb : b = 0
    · subst hb
      rw [if_pos (by simp), mulv_in (by omega) (by omega), Int.mul_zero]
    · rw [if_neg (by omega)]
      unfold mulv
      have key : (a < 0 ∨ ¬ a < 0) ∧ (b < 0 ∨ ¬ b < 0) := ⟨by omega, by omega⟩
      rcases key with ⟨h | h, h' | h'⟩
      · rw [if_pos h, if_pos h']
        exact ref_g false _ _ _ (a * b) (by omega) (by omega) (by omega) rfl (by
          rw [show (a.natAbs : Int) = -a by omega, show (b.natAbs : Int) = -b by omega, Int.neg_mul_neg]; rfl)
      · rw [if_pos h, if_neg h']
        exact ref_g true _ _ _ (a * b) (by omega) (by omega) (by omega) rfl (by
          rw [show (a.natAbs : Int) = -a by omega, show (b.natAbs : Int) = b by omega, Int.neg_mul, Int.neg_neg]; rfl)
      · rw [if_neg h, if_pos h']
        exact ref_g true _ _ _ (a * b) (by omega) (by omega) (by omega) rfl (by
          rw [show (a.natAbs : Int) = a by omega, show (b.natAbs : Int) = -b by omega, Int.mul_neg, Int.neg_neg]; rfl)
      · rw [if_neg h, if_neg h']
        exact ref_g false _ _ _ (a * b) (by omega) (by omega) (by omega) rfl (by
          rw [show (a.natAbs : Int) = a by omega, show (b.natAbs : Int) = b by omega]; rfl)

theorem add_same (a b : Int) (ha0 : -9223372036854775808 ≤ a) (ha1 : a ≤ 9223372036854775807) (hb0 : -9223372036854775808 ≤ b) (hb1 : b ≤ 9223372036854775807) :
    ∃ r, arith_Add.f a b = some r ∧ horariumref01_Add.f a b = some r := by
  refine ⟨if -9223372036854775808 ≤ a + b ∧ a + b ≤ 9223372036854775807 then (a + b, true) else (0, false), ?_, ?_⟩
  · unfold arith_Add.f wrap64
    (repeat' split) <;> first | rfl | omega | (congr 2; omega)
  · unfold horariumref01_Add.f wrap64
    (repeat' split) <;> first | rfl | omega | (congr 2; omega)

theorem ArithSums : horariumlaw01_ArithSums.Pure := by
  intro a b wa wb
  have ba := bounds_i64 wa
  have bb := bounds_i64 wb
  refine ⟨9223372036854775820, ?_⟩
  unfold horariumlaw01_ArithSums.f
  obtain ⟨r, h1, h2⟩ := add_same a b ba.1 ba.2 bb.1 bb.2
  rw [h1, h2, mul_f _ a b ba.1 ba.2 bb.1 bb.2 (by omega), ref_mul_f _ a b ba.1 ba.2 bb.1 bb.2, awake_f _ (by omega)]
  simp

end Go.Proofs.Ytkiaglpkijhbmaa.Pure
