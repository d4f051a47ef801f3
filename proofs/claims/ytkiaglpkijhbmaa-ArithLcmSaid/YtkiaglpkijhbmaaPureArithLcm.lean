/- The least number that is divisible by all is told, and of two their product by the greatest common one (ArithLcm): for all slices of 64-bit numbers, no condition. -/
import Derived.Test.YtkiaglpkijhbmaaAArithLcm
import Derived.Test.YtkiaglpkijhbmaaPArithLcmx2
namespace Go.Proofs.Ytkiaglpkijhbmaa.Pure
open Go.RowKit Go.Proofs.Ytkiaglpkijhbmaa.PArithLcm Go.Proofs.YtkiaglpkijhbmaaW.PrintWords Go.Proofs.YtkiaglpkijhbmaaW.PrintLast Go.Proofs.Ytkiaglpkijhbmaa.Math Go.Proofs.Ytkiaglpkijhbmaa.AArithLcm

/-- The loop over all, and what is asked behind it. -/
theorem loop (l : List Int) (n : Int) (hn : 1 ≤ n) (hl : l.length ≤ 20) (hd : ∀ y ∈ l, 1 ≤ y ∧ y ∣ n) (hb : ∀ y ∈ l, y ≤ 9223372036854775807)
    (h2 : ∀ a b, l = [a, b] → n = wrap64 (wrap64 (a / (Int.gcd a b : Int)) * b)) (h0 : l = [] → n = 1) :
    ∀ (d i k : Nat), i + d = l.length → d + 9223372036854775820 ≤ k → horariumlaw01_ArithLcm.l0 k l n i = some true
  | 0, i, k, hi, hk => by
    obtain ⟨k, rfl⟩ : ∃ m, k = m + 1 := ⟨k - 1, by omega⟩
    simp only [horariumlaw01_ArithLcm.l0]
    rw [if_neg (by omega)]
    match l, hl, hd, hb, h2, h0, hi with
    | [], _, _, _, _, h0, _ => simp [h0 rfl]
    | [a], _, _, _, _, _, _ => simp [hn]
    | [a, b], _, hd, hb, h2, _, _ =>
      have ha := hd a (by simp)
      have hb' := hd b (by simp)
      have hba := hb a (by simp)
      have hbb := hb b (by simp)
      rw [if_pos (by simp), if_pos (by simp), if_pos (by simp)]
      have e0 : rd [a, b] 0 = a := rfl
      have e1 : rd [a, b] 1 = b := rfl
      have hg := gcd_pos (y := b) ha.1
      rw [e0, e1, gcd_f_pos k a b (by omega) (by omega) (by omega)]
      simp only [Option.bind_some]
      rw [if_neg (by omega), tdiv_pos (by omega), h2 a b rfl]
      simp
    | a :: b :: c :: l, _, _, _, _, _, _ =>
      rw [if_neg (by simp; omega), if_pos (by omega), if_pos (by simp; omega)]
  | d + 1, i, k, hi, hk => by
    obtain ⟨k, rfl⟩ : ∃ m, k = m + 1 := ⟨k - 1, by omega⟩
    have hlt : i < l.length := by omega
    simp only [horariumlaw01_ArithLcm.l0]
    have hrd : rd l (i : Int) = l[i] := by simp [rd, hlt]
    have hm := hd l[i] (List.getElem_mem hlt)
    rw [if_pos (by omega), if_pos (by omega), hrd, if_neg (by omega), if_neg (by omega), tmod_pos (by omega), Int.emod_eq_zero_of_dvd hm.2, if_pos rfl, wrap64_id (by omega) (by omega)]
    exact loop l n hn hl hd hb h2 h0 d (i + 1) k (by omega) (by omega)

theorem ArithLcm : horariumlaw01_ArithLcm.Pure := by
  intro l _ hlen hw
  have hb : ∀ y ∈ l, -9223372036854775808 ≤ y ∧ y ≤ 9223372036854775807 := fun y hy => bounds_i64 (hw y hy)
  refine ⟨9223372036854775850, ?_⟩
  unfold horariumlaw01_ArithLcm.f
  rw [awake_f _ (by omega)]
  simp only [Option.bind_some, if_true]
  by_cases h20 : (l.length : Int) > 20
  · simp only [horariumlaw01_ArithLcm.j0]
    rw [if_pos (by simpa using h20), awake_f _ (by omega)]
    rfl
  · simp only [horariumlaw01_ArithLcm.j0]
    rw [if_neg (by simpa using h20), lcm_f l hb (by omega) _ (by omega)]
    simp only [Option.bind_some]
    rcases lcmS_tells l 1 (by omega) (by omega) with ⟨h, hne⟩ | ⟨h1, h2, h3, _, h5⟩
    · rw [h]
      have : 0 < l.length := List.length_pos_iff.2 hne
      rw [if_neg (by simp), if_pos rfl]
      simpa using this
    · rw [if_pos h1]
      refine loop l _ h2 (by omega) h5 (fun y hy => (hb y hy).2) ?_ ?_ l.length 0 _ (by omega) (by omega)
      · rintro a b rfl
        have ha := h5 a (by simp)
        have hbb := h5 b (by simp)
        have e : (lcmS 1 [a, b]) = lcmS a [b] := by
          conv => lhs; unfold lcmS
          rw [if_neg (by omega)]
          have hg : Int.gcd 1 a = 1 := by simp
          have : (1 : Int) / ((Int.gcd 1 a : Nat) : Int) * a = a := by rw [hg]; simp
          rw [this, if_pos (by have := (hb a (by simp)).2; omega)]
        rw [e] at h1 h2 h3 ⊢
        unfold lcmS at h1 h2 h3 ⊢
        rw [if_neg (by omega)] at h1 h2 h3 ⊢
        split at h1
        · rename_i hle
          rw [if_pos hle]
          simp only [lcmS]
          have hg := gcd_pos (y := b) ha.1
          have hq := lcm_pos (y := b) ha.1
          have hq2 : a / (Int.gcd a b : Int) ≤ a := Int.ediv_le_self _ (by omega)
          have hp2 := lcm_mul_pos (y := b) ha.1 (by omega)
          have := (hb a (by simp)).2
          rw [wrap64_id (n := a / (Int.gcd a b : Int)) (by omega) (by omega), wrap64_id (by omega) hle]
        · cases h1
      · rintro rfl
        rfl

end Go.Proofs.Ytkiaglpkijhbmaa.Pure
