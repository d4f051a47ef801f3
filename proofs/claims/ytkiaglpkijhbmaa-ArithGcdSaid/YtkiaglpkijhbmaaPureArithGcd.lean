/- The greatest number by which both are divisible is told, and the quotients have none but 1 (ArithGcd): for all two 64-bit numbers, no condition. -/
import Derived.Test.YtkiaglpkijhbmaaAArithGcd
import Derived.Test.YtkiaglpkijhbmaaPArithGcdx2
namespace Go.Proofs.Ytkiaglpkijhbmaa.Pure
open Go.RowKit Go.Proofs.Ytkiaglpkijhbmaa.PArithGcd Go.Proofs.YtkiaglpkijhbmaaW.PrintWords Go.Proofs.YtkiaglpkijhbmaaW.PrintMore Go.Proofs.YtkiaglpkijhbmaaW.PrintLast Go.Proofs.Ytkiaglpkijhbmaa.Math Go.Proofs.Ytkiaglpkijhbmaa.AArithGcd

theorem divides_f (d a b : Int) (hd : 0 < d) (ha : 0 ≤ a) (hb : 0 ≤ b) : horariumref01_Divides.f d a b = some (decide (d ∣ a ∧ d ∣ b)) := by
  unfold horariumref01_Divides.f
  rw [if_pos hd, if_neg (by omega), tmod_pos ha, tmod_pos hb]
  by_cases h : a % d = 0
  · rw [if_pos h]
    have h1 := Int.dvd_of_emod_eq_zero h
    by_cases h2 : b % d = 0
    · simp [h2, h1, Int.dvd_of_emod_eq_zero h2]
    · have : ¬ d ∣ b := fun hh => h2 (Int.emod_eq_zero_of_dvd hh)
      simp [h2, this]
  · have : ¬ d ∣ a := fun hh => h (Int.emod_eq_zero_of_dvd hh)
    rw [if_neg h]
    simp [this]

/-- The loop over the numbers from 2 to 300. -/
theorem loop (a b g : Int) (ha : 1 ≤ a) (hb : 1 ≤ b) (hab : a ≤ 9223372036854775807) (hbb : b ≤ 9223372036854775807) (hg : 1 ≤ g) (h1 : Int.gcd (a / g) (b / g) = 1) :
    ∀ (d : Nat) (i : Int) (k : Nat), 2 ≤ i → i + d = 301 → d + 9223372036854775820 ≤ k → horariumlaw01_ArithGcd.l0 k a b g i = some true
  | 0, i, k, _, hi, hk => by
    obtain ⟨k, rfl⟩ : ∃ m, k = m + 1 := ⟨k - 1, by omega⟩
    have hqa : 0 ≤ a / g := Int.ediv_nonneg (by omega) (by omega)
    have hqb : 0 ≤ b / g := Int.ediv_nonneg (by omega) (by omega)
    have hqa2 : a / g ≤ a := Int.ediv_le_self _ (by omega)
    have hqb2 : b / g ≤ b := Int.ediv_le_self _ (by omega)
    simp only [horariumlaw01_ArithGcd.l0]
    rw [if_neg (by omega), if_neg (by omega), tdiv_pos (by omega), tdiv_pos (by omega), wrap64_id (by omega) (by omega), wrap64_id (by omega) (by omega), gcd_f_pos k _ _ (by omega) hqa hqb, h1]
    rfl
  | d + 1, i, k, h2, hi, hk => by
    obtain ⟨k, rfl⟩ : ∃ m, k = m + 1 := ⟨k - 1, by omega⟩
    have hqa : 0 ≤ a / g := Int.ediv_nonneg (by omega) (by omega)
    have hqb : 0 ≤ b / g := Int.ediv_nonneg (by omega) (by omega)
    have hqa2 : a / g ≤ a := Int.ediv_le_self _ (by omega)
    have hqb2 : b / g ≤ b := Int.ediv_le_self _ (by omega)
    simp only [horariumlaw01_ArithGcd.l0]
    rw [if_pos (by omega), if_neg (by omega), tdiv_pos (by omega), tdiv_pos (by omega), wrap64_id (by omega) (by omega), wrap64_id (by omega) (by omega), divides_f i _ _ (by omega) hqa hqb]
    have hn : ¬ (i ∣ a / g ∧ i ∣ b / g) := by
      rintro ⟨x, y⟩
      have := Int.dvd_coe_gcd x y
      rw [h1] at this
      have := Int.le_of_dvd (by omega) this
      omega
    simp only [hn, decide_false, Option.bind_some]
    rw [if_neg (by simp), wrap64_id (by omega) (by omega)]
    exact loop a b g ha hb hab hbb hg h1 d (i + 1) k (by omega) (by omega) (by omega)

theorem ArithGcd : horariumlaw01_ArithGcd.Pure := by
  intro a b wa wb
  have ba := bounds_i64 wa
  have bb := bounds_i64 wb
  refine ⟨9223372036854776200, ?_⟩
  unfold horariumlaw01_ArithGcd.f
  rw [gcd_f _ a b (by omega), awake_f _ (by omega)]
  simp only [Option.bind_some, if_true]
  have hj : ∀ c : Bool, c = decide (a < 1 ∨ b < 1) → horariumlaw01_ArithGcd.j0 9223372036854776200 a b ((Nat.gcd a.toNat b.toNat : Nat) : Int) c = some true := by
    intro c hc
    simp only [horariumlaw01_ArithGcd.j0]
    by_cases h : a < 1 ∨ b < 1
    · rw [if_pos (by rw [hc]; simpa using h), gcd_f _ b a (by omega), if_pos]
      · simp only [Option.bind_some]
        rw [Nat.gcd_comm]
        simp
      · rcases h with h | h
        · rw [show a.toNat = 0 by omega, Nat.gcd_zero_left]
          unfold mx; (repeat' split) <;> omega
        · rw [show b.toNat = 0 by omega, Nat.gcd_zero_right]
          unfold mx; (repeat' split) <;> omega
    · rw [if_neg (by rw [hc]; simpa using h)]
      have e : ((Nat.gcd a.toNat b.toNat : Nat) : Int) = (Int.gcd a b : Int) := by
        unfold Int.gcd
        rw [show a.toNat = a.natAbs from by omega, show b.toNat = b.natAbs from by omega]
      have hg := gcd_pos (x := a) (y := b) (by omega)
      rw [e, divides_f _ _ _ (by omega) (by omega) (by omega)]
      have hd : ((Int.gcd a b : Int) ∣ a ∧ (Int.gcd a b : Int) ∣ b) := ⟨Int.gcd_dvd_left .., Int.gcd_dvd_right ..⟩
      simp only [hd, and_self, decide_true, Option.bind_some, if_true]
      rw [gcd_f_pos _ b a (by omega) (by omega) (by omega), Int.gcd_comm b a]
      simp only [Option.bind_some, bne_self_eq_false, horariumlaw01_ArithGcd.j1]
      rw [if_neg (by simp)]
      refine loop a b _ (by omega) (by omega) (by omega) (by omega) hg ?_ 299 2 _ (by omega) (by omega) (by omega)
      rw [Int.gcd_ediv hd.1 hd.2]
      simp
      rw [Nat.div_self (by omega)]
  by_cases h1 : a < 1
  · rw [if_pos h1]
    exact hj true (by simp [h1])
  · rw [if_neg h1]
    exact hj _ (by simp [h1])

end Go.Proofs.Ytkiaglpkijhbmaa.Pure
