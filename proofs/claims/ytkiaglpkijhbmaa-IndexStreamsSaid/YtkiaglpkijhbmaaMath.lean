import Derived.OpenShut
import Derived.RowKit
/-! Plain facts on 64-bit wrap-round, truncating division, greatest common divisors. No program stands here. -/
namespace Go.Proofs.Ytkiaglpkijhbmaa.Math
open Go.RowKit

theorem wrap64_id {n : Int} (h0 : -9223372036854775808 ≤ n) (h1 : n ≤ 9223372036854775807) : wrap64 n = n := by
  unfold wrap64; omega
theorem wrap64_in (n : Int) : -9223372036854775808 ≤ wrap64 n ∧ wrap64 n ≤ 9223372036854775807 := by
  unfold wrap64; omega
theorem u64_wrap (n : Int) : IntKind.u64.wrap n = n % 18446744073709551616 := by
  simp [IntKind.wrap, IntKind.bits, IntKind.signed]
theorem wrap64_congr {a b : Int} (h : a % 18446744073709551616 = b % 18446744073709551616) : wrap64 a = wrap64 b := by
  unfold wrap64; omega
theorem wrap64_emod (n : Int) : wrap64 n % 18446744073709551616 = n % 18446744073709551616 := by
  unfold wrap64; omega
theorem wrap64_mul_left (a b : Int) : wrap64 (wrap64 a * b) = wrap64 (a * b) := by
  apply wrap64_congr
  rw [Int.mul_emod, wrap64_emod, ← Int.mul_emod]
theorem wrap64_mod_mul (a b : Int) : wrap64 ((a % 18446744073709551616 * (b % 18446744073709551616)) % 18446744073709551616) = wrap64 (a * b) := by
  apply wrap64_congr
  rw [← Int.mul_emod]; omega
theorem natAbs_tmod_lt (a : Int) {b : Int} (h : b ≠ 0) : (a.tmod b).natAbs < b.natAbs := by
  rw [Int.natAbs_tmod]; exact Nat.mod_lt _ (by omega)
theorem natAbs_tdiv_le (a b : Int) : (a.tdiv b).natAbs ≤ a.natAbs := by
  rw [Int.natAbs_tdiv]; exact Nat.div_le_self _ _

/-- The product, if it is one. -/
def mulv (a b : Int) : Int × Bool := if -9223372036854775808 ≤ a * b ∧ a * b ≤ 9223372036854775807 then (a * b, true) else (0, false)
theorem mulv_in {a b : Int} (h0 : -9223372036854775808 ≤ a * b) (h1 : a * b ≤ 9223372036854775807) : mulv a b = (a * b, true) := if_pos ⟨h0, h1⟩
theorem mulv_out {a b : Int} (h : ¬ (-9223372036854775808 ≤ a * b ∧ a * b ≤ 9223372036854775807)) : mulv a b = (0, false) := if_neg h

/-- The quotient tells whether a product is none: but at the least number and -1. -/
theorem mul_back {a b : Int} (hb : b ≠ 0) (hb0 : -9223372036854775808 ≤ b) (hb1 : b ≤ 9223372036854775807)
    (hq : wrap64 ((wrap64 (a * b)).tdiv b) = a) (hn : ¬ (-9223372036854775808 ≤ a * b ∧ a * b ≤ 9223372036854775807)) : a = -9223372036854775808 ∧ b = -1 := by
  have hp := wrap64_in (a * b)
  have hm : ∃ m, wrap64 (a * b) = a * b + 18446744073709551616 * m := by
    refine ⟨-((a * b + 9223372036854775808) / 18446744073709551616), ?_⟩
    unfold wrap64; omega
  obtain ⟨m, hm⟩ := hm
  generalize wrap64 (a * b) = p at *
  have hd := natAbs_tdiv_le p b
  have hr := natAbs_tmod_lt p hb
  have he := Int.mul_tdiv_add_tmod p b
  by_cases h1 : p.tdiv b ≤ 9223372036854775807
  · have : p.tdiv b = a := by
      rw [wrap64_id (by omega) h1] at hq; exact hq
    rw [this, Int.mul_comm] at he
    exfalso
    generalize a * b = c at *
    omega
  · have hp' : p = -9223372036854775808 := by omega
    have hq' : p.tdiv b = 9223372036854775808 := by omega
    rw [hq'] at hq
    have ha : a = -9223372036854775808 := by rw [← hq]; unfold wrap64; omega
    refine ⟨ha, ?_⟩
    rw [hq'] at he
    omega

theorem natCast_tmod (a b : Nat) : Int.tmod (a : Int) (b : Int) = ((a % b : Nat) : Int) := rfl
theorem tmod_pos {a b : Int} (ha : 0 ≤ a) : Int.tmod a b = a % b := Int.tmod_eq_emod_of_nonneg ha
theorem tdiv_pos {a b : Int} (ha : 0 ≤ a) : Int.tdiv a b = a / b := Int.tdiv_eq_ediv_of_nonneg ha

/-- The least number that is divisible by all, from x on; (0, false), if there is none. -/
def lcmS : Int → List Int → Int × Bool
  | x, [] => (x, true)
  | x, y :: ys => if y < 1 then (0, false) else if x / (Int.gcd x y : Int) * y ≤ 9223372036854775807 then lcmS (x / (Int.gcd x y : Int) * y) ys else (0, false)

theorem gcd_pos {x y : Int} (hx : 1 ≤ x) : 1 ≤ (Int.gcd x y : Int) := by
  have : Int.gcd x y ≠ 0 := by
    intro h; have := Int.gcd_eq_zero_iff.1 h; omega
  omega
theorem lcm_pos {x y : Int} (hx : 1 ≤ x) : 1 ≤ x / (Int.gcd x y : Int) := by
  have hg := gcd_pos (y := y) hx
  have hd : (Int.gcd x y : Int) ∣ x := Int.gcd_dvd_left ..
  rw [Int.le_ediv_iff_mul_le (by omega)]
  have := Int.le_of_dvd (by omega) hd
  omega
theorem lcm_mul_pos {x y : Int} (hx : 1 ≤ x) (hy : 1 ≤ y) : 1 ≤ x / (Int.gcd x y : Int) * y := by
  have := Int.mul_le_mul (lcm_pos (y := y) hx) hy (by omega) (by have := lcm_pos (y := y) hx; omega)
  omega
theorem dvd_lcm_left {x y : Int} : x ∣ x / (Int.gcd x y : Int) * y := by
  obtain ⟨c, hc⟩ := (Int.gcd_dvd_right x y : (Int.gcd x y : Int) ∣ y)
  have h := Int.ediv_mul_cancel (Int.gcd_dvd_left x y : (Int.gcd x y : Int) ∣ x)
  refine ⟨c, ?_⟩
  calc x / (Int.gcd x y : Int) * y = x / (Int.gcd x y : Int) * ((Int.gcd x y : Int) * c) := by rw [← hc]
    _ = x * c := by rw [← Int.mul_assoc, h]
theorem dvd_lcm_right {x y : Int} : y ∣ x / (Int.gcd x y : Int) * y := ⟨_, Int.mul_comm _ _⟩

/-- What is told is from x on, in range, and divisible by all. -/
theorem lcmS_tells : ∀ (ys : List Int) (x : Int), 1 ≤ x → x ≤ 9223372036854775807 →
    (lcmS x ys = (0, false) ∧ ys ≠ []) ∨ ((lcmS x ys).2 = true ∧ 1 ≤ (lcmS x ys).1 ∧ (lcmS x ys).1 ≤ 9223372036854775807 ∧ x ∣ (lcmS x ys).1 ∧ ∀ y ∈ ys, 1 ≤ y ∧ y ∣ (lcmS x ys).1)
  | [], x, h0, h1 => .inr ⟨rfl, h0, h1, Int.dvd_refl x, fun y hy => by cases hy⟩
  | y :: ys, x, h0, h1 => by
    unfold lcmS
    split
    · exact .inl ⟨rfl, by simp⟩
    · split
      · rename_i hy hm
        have hp := lcm_mul_pos h0 (show 1 ≤ y by omega)
        rcases lcmS_tells ys _ hp hm with ⟨h, _⟩ | ⟨a, b, c, d, e⟩
        · exact .inl ⟨h, by simp⟩
        · refine .inr ⟨a, b, c, Int.dvd_trans dvd_lcm_left d, fun z hz => ?_⟩
          rcases List.mem_cons.1 hz with rfl | hz
          · exact ⟨by omega, Int.dvd_trans dvd_lcm_right d⟩
          · exact e z hz
      · exact .inl ⟨rfl, by simp⟩

end Go.Proofs.Ytkiaglpkijhbmaa.Math
