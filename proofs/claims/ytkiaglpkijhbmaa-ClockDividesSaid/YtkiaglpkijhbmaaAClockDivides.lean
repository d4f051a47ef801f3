import Derived.Test.YtkiaglpkijhbmaaMath
import Derived.Test.YtkiaglpkijhbmaaPClockDividesx3
/-! What arith's functions come to, in the law ClockDivides's print. -/
namespace Go.Proofs.Ytkiaglpkijhbmaa.AClockDivides
open Go.RowKit Go.Proofs.Ytkiaglpkijhbmaa.PClockDivides Go.Proofs.YtkiaglpkijhbmaaW.PrintWords Go.Proofs.YtkiaglpkijhbmaaW.PrintMore Go.Proofs.Ytkiaglpkijhbmaa.Math

theorem mx_zero (a : Int) : mx a 0 = (a.toNat : Int) := by unfold mx; omega

theorem gcd_l0 : ∀ (n b a k : Nat), b ≤ n → n < k → arith_Gcd.l0 k a b = some ((Nat.gcd a b : Nat) : Int)
  | 0, b, a, k, hb, hk => by
    obtain ⟨k, rfl⟩ : ∃ m, k = m + 1 := ⟨k - 1, by omega⟩
    obtain rfl : b = 0 := by omega
    simp only [arith_Gcd.l0]
    rw [if_neg (by omega), Nat.gcd_zero_right]
  | n + 1, b, a, k, hb, hk => by
    obtain ⟨k, rfl⟩ : ∃ m, k = m + 1 := ⟨k - 1, by omega⟩
    simp only [arith_Gcd.l0]
    by_cases h : b = 0
    · subst h
      rw [if_neg (by omega), Nat.gcd_zero_right]
    · rw [if_pos (by omega), if_neg (by omega), natCast_tmod]
      have hlt : a % b < b := Nat.mod_lt _ (by omega)
      rw [gcd_l0 n (a % b) b k (by omega) (by omega), Nat.gcd_comm b, ← Nat.gcd_rec, Nat.gcd_comm]
theorem gcd_f (k : Nat) (a b : Int) (hk : b.toNat < k) : arith_Gcd.f k a b = some ((Nat.gcd a.toNat b.toNat : Nat) : Int) := by
  unfold arith_Gcd.f
  rw [mx_zero, mx_zero]
  exact gcd_l0 b.toNat b.toNat a.toNat k (Nat.le_refl _) hk
theorem gcd_f_pos (k : Nat) (a b : Int) (hk : b.toNat < k) (ha : 0 ≤ a) (hb : 0 ≤ b) : arith_Gcd.f k a b = some ((Int.gcd a b : Nat) : Int) := by
  rw [gcd_f k a b hk]
  unfold Int.gcd
  rw [show a.toNat = a.natAbs from by omega, show b.toNat = b.natAbs from by omega]

theorem mul_f (k : Nat) (a b : Int) (ha0 : -9223372036854775808 ≤ a) (ha1 : a ≤ 9223372036854775807) (hb0 : -9223372036854775808 ≤ b) (hb1 : b ≤ 9223372036854775807) (hk : 0 < k) :
    arith_Mul.f k a b = some (mulv a b) := by
  obtain ⟨k, rfl⟩ : ∃ m, k = m + 1 := ⟨k - 1, by omega⟩
  unfold arith_Mul.f
  by_cases ha : a = 0
  · subst ha
    rw [if_pos rfl]
    simp only [arith_Mul.j0, if_true]
    rw [mulv_in (by omega) (by omega), Int.zero_mul]
  · rw [if_neg ha]
    by_cases hb : b = 0
    · subst hb
      simp only [arith_Mul.j0, beq_self_eq_true, if_true]
      rw [mulv_in (by omega) (by omega), Int.mul_zero]
    · simp only [arith_Mul.j0]
      rw [if_neg (by simpa using hb), if_neg hb]
      by_cases hr : -9223372036854775808 ≤ a * b ∧ a * b ≤ 9223372036854775807
      · rw [mulv_in hr.1 hr.2, wrap64_id hr.1 hr.2, Int.mul_tdiv_cancel _ hb, wrap64_id ha0 ha1, if_pos rfl]
        by_cases h1 : a = -1
        · subst h1
          rw [if_pos rfl, if_neg (by omega)]
          split
          · rw [if_neg (by omega)]
          · rfl
        · rw [if_neg h1]
          split
          · rename_i h2
            subst h2
            rw [if_neg (by omega)]
          · rfl
      · rw [mulv_out hr]
        by_cases hq : wrap64 ((wrap64 (a * b)).tdiv b) = a
        · obtain ⟨h1, h2⟩ := mul_back hb hb0 hb1 hq hr
          subst h1 h2
          rw [if_pos hq, if_neg (by omega), if_pos rfl, if_pos rfl]
        · rw [if_neg hq]

theorem lcm_l0 (ys : List Int) (hy : ∀ y ∈ ys, -9223372036854775808 ≤ y ∧ y ≤ 9223372036854775807) (hl : (ys.length : Int) ≤ 9223372036854775807) : ∀ (d i k : Nat) (x : Int), 1 ≤ x → x ≤ 9223372036854775807 → i + d = ys.length → d + 9223372036854775810 ≤ k →
    arith_Lcm.l0 k x ys ys.length i = some (lcmS x (ys.drop i))
  | 0, i, k, x, h0, h1, hi, hk => by
    obtain ⟨k, rfl⟩ : ∃ m, k = m + 1 := ⟨k - 1, by omega⟩
    simp only [arith_Lcm.l0]
    rw [if_neg (by omega), List.drop_of_length_le (by omega)]
    rfl
  | d + 1, i, k, x, h0, h1, hi, hk => by
    obtain ⟨k, rfl⟩ : ∃ m, k = m + 1 := ⟨k - 1, by omega⟩
    have hlt : i < ys.length := by omega
    simp only [arith_Lcm.l0]
    rw [if_pos (by omega), if_pos (by omega), if_pos (by omega)]
    have hrd : rd ys (i : Int) = ys[i] := by simp [rd, hlt]
    have hm := hy ys[i] (List.getElem_mem hlt)
    rw [hrd, List.drop_eq_getElem_cons hlt]
    unfold lcmS
    by_cases hp : ys[i] < 1
    · rw [if_pos hp, if_pos hp]
    · have hg := gcd_pos (y := ys[i]) h0
      rw [if_neg hp, if_neg hp, gcd_f_pos k x ys[i] (by omega) (by omega) (by omega)]
      simp only [Option.bind_some]
      have hq := lcm_pos (y := ys[i]) h0
      have hq2 : x / (Int.gcd x ys[i] : Int) ≤ x := Int.ediv_le_self _ (by omega)
      rw [if_neg (by omega), tdiv_pos (by omega), wrap64_id (by omega) (by omega), mul_f k _ _ (by omega) (by omega) hm.1 hm.2 (by omega)]
      simp only [Option.bind_some]
      have hp2 := lcm_mul_pos (y := ys[i]) h0 (by omega)
      by_cases hle : x / (Int.gcd x ys[i] : Int) * ys[i] ≤ 9223372036854775807
      · rw [mulv_in (by omega) hle, if_pos rfl, if_pos hle, wrap64_id (by omega) (by omega)]
        exact lcm_l0 ys hy hl d (i + 1) k _ hp2 hle (by omega) (by omega)
      · rw [mulv_out (by omega), if_neg hle]
        rfl
theorem lcm_f (ys : List Int) (hy : ∀ y ∈ ys, -9223372036854775808 ≤ y ∧ y ≤ 9223372036854775807) (hl : (ys.length : Int) ≤ 9223372036854775807) (k : Nat) (hk : ys.length + 9223372036854775810 ≤ k) : arith_Lcm.f k ys = some (lcmS 1 ys) := by
  unfold arith_Lcm.f
  exact lcm_l0 ys hy hl ys.length 0 k 1 (by omega) (by omega) (by omega) hk

end Go.Proofs.Ytkiaglpkijhbmaa.AClockDivides
