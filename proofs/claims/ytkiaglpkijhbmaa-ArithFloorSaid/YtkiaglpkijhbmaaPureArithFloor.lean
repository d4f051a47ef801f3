/- Of all numbers the quotient, rounded down, and what is left, are told (ArithFloor): for all two 64-bit numbers, no condition. -/
import Derived.Test.YtkiaglpkijhbmaaAArithFloor
import Derived.Test.YtkiaglpkijhbmaaPArithFloorx1
namespace Go.Proofs.Ytkiaglpkijhbmaa.Pure
open Go.RowKit Go.Proofs.Ytkiaglpkijhbmaa.PArithFloor Go.Proofs.YtkiaglpkijhbmaaW.PrintWords Go.Proofs.YtkiaglpkijhbmaaW.PrintLast Go.Proofs.Ytkiaglpkijhbmaa.Math Go.Proofs.Ytkiaglpkijhbmaa.AArithFloor

theorem floor_sum (q r d n : Int) (h : d * q + r = n) (h0 : -9223372036854775808 ≤ n) (h1 : n ≤ 9223372036854775807) : wrap64 (wrap64 (wrap64 q * d) + r) = n := by
  rw [wrap64_mul_left]
  have : wrap64 (wrap64 (q * d) + r) = wrap64 n := by
    apply wrap64_congr
    rw [Int.mul_comm q d]
    have := wrap64_emod (d * q)
    omega
  rw [this, wrap64_id h0 h1]

theorem ArithFloor : horariumlaw01_ArithFloor.Pure := by
  intro n d hn hd
  have bn := bounds_i64 hn
  have bd := bounds_i64 hd
  refine ⟨9223372036854775820, ?_⟩
  unfold horariumlaw01_ArithFloor.f arith_Floor.f
  rw [awake_f _ (by omega)]
  by_cases h1 : d < 1
  · rw [if_pos h1]
    simp only [Option.bind_some]
    rw [if_pos h1]
    rfl
  · have hm := natAbs_tmod_lt n (show d ≠ 0 by omega)
    have he := Int.mul_tdiv_add_tmod n d
    have hsg : 0 ≤ n → 0 ≤ n.tmod d := fun h => Int.tmod_nonneg _ h
    rw [if_neg h1, if_neg (by omega)]
    by_cases hr : n.tmod d < 0
    · rw [if_pos hr]
      simp only [Option.bind_some, if_true]
      rw [if_neg h1, wrap64_id (n := n.tmod d + d) (by omega) (by omega), if_pos (by omega), if_pos (by omega)]
      have hw : wrap64 (wrap64 (n.tdiv d) - 1) = wrap64 (n.tdiv d - 1) := by
        apply wrap64_congr
        have := wrap64_emod (n.tdiv d)
        omega
      rw [hw, floor_sum (n.tdiv d - 1) (n.tmod d + d) d n (by rw [Int.mul_sub]; omega) bn.1 bn.2]
      simp
    · rw [if_neg hr]
      simp only [Option.bind_some, if_true]
      rw [if_neg h1, if_pos (by omega), if_pos (by omega), floor_sum (n.tdiv d) (n.tmod d) d n he bn.1 bn.2]
      simp

end Go.Proofs.Ytkiaglpkijhbmaa.Pure
