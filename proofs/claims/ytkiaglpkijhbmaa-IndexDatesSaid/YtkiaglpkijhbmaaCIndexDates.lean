import Derived.Test.YtkiaglpkijhbmaaMath
import Derived.Test.YtkiaglpkijhbmaaRIndexDatesx3
/-! What clock's functions come to, in the law IndexDates's print. -/
namespace Go.Proofs.Ytkiaglpkijhbmaa.CIndexDates
open Go.RowKit Go.Proofs.Ytkiaglpkijhbmaa.PIndexDates Go.Proofs.YtkiaglpkijhbmaaW.PrintWords Go.Proofs.YtkiaglpkijhbmaaW.PrintMore Go.Proofs.Ytkiaglpkijhbmaa.Math

def rightB (p f : Int) : Bool := decide (1 ≤ p ∧ p ≤ 2000 ∧ 0 ≤ f ∧ f ≤ 2000)
theorem rightB_iff {p f : Int} : rightB p f = true ↔ 1 ≤ p ∧ p ≤ 2000 ∧ 0 ≤ f ∧ f ≤ 2000 := by simp [rightB]
theorem right_f (p f : Int) : clock_Right.f p f = some (rightB p f) := by
  unfold clock_Right.f rightB
  (repeat' split) <;> (congr 1; rw [Bool.eq_iff_iff]; simp; try omega)
def factorS (kind n d : Int) : Int :=
  if kind = 5 then (if d < 1 ∨ d > 100 ∨ n < 0 ∨ n > 100 then 7 else 0) else if kind = 3 ∨ kind = 4 then (if n < 1 ∨ n > 100 then 7 else 0) else if kind = 6 ∨ kind = 7 ∨ kind = 8 then 0 else 12
theorem factor_f (k : Nat) (kind n d : Int) (hk : 1 ≤ k) : clock_factor.f k kind n d = some (factorS kind n d) := by
  obtain ⟨k, rfl⟩ : ∃ m, k = m + 1 := ⟨k - 1, by omega⟩
  unfold clock_factor.f factorS
  simp only [clock_factor.j0, clock_factor.j1]
  by_cases h5 : kind = 5
  · rw [if_pos h5, if_pos h5]
    by_cases h1 : d < 1
    · simp [h1]
    · by_cases h2 : d > 100
      · simp [h1, h2]
      · rw [if_neg h1, if_neg (by simpa using h2)]
        (repeat' split) <;> first | rfl | omega
  · rw [if_neg h5, if_neg h5]
    by_cases h3 : kind = 3
    · subst h3
      simp only [if_true, beq_self_eq_true, true_or]
      (repeat' split) <;> first | rfl | omega
    · rw [if_neg h3]
      by_cases h4 : kind = 4
      · subst h4
        simp only [beq_self_eq_true, if_true, or_true]
        (repeat' split) <;> first | rfl | omega
      · rw [if_neg (by simpa using h4)]
        (repeat' split) <;> first | rfl | omega
def fin (ok : Bool) (p f : Int) : Int × Int × Int := if ok = true then (if rightB p f = true then (p, f, 0) else (0, 0, 7)) else (0, 0, 5)
def applyS (p f kind n d : Int) : Int × Int × Int :=
  if rightB p f = true then
    if factorS kind n d = 0 then
      if kind = 3 then fin (p % n == 0) (p / n) f
      else if kind = 4 then fin true (p * n) f
      else if kind = 5 then fin (p * n % d == 0) p (f + p * n / d)
      else if kind = 7 then fin true p (f + p)
      else if kind = 8 then fin (decide (f ≥ p)) p (f - p)
      else fin true p f
    else (0, 0, factorS kind n d)
  else (0, 0, 12)
theorem fin_j (k : Nat) (ok : Bool) (p f : Int) (hk : 1 ≤ k) : clock_Apply.j1 k ok p f = some (fin ok p f) := by
  obtain ⟨k, rfl⟩ : ∃ m, k = m + 1 := ⟨k - 1, by omega⟩
  simp only [clock_Apply.j1, right_f, Option.bind_some, fin]
  (repeat' split) <;> rfl
theorem mul_le (p n : Int) (h0 : 1 ≤ p) (h1 : p ≤ 2000) (h2 : 0 ≤ n) (h3 : n ≤ 100) : 0 ≤ p * n ∧ p * n ≤ 200000 :=
  ⟨Int.mul_nonneg (by omega) h2, by have := Int.mul_le_mul h1 h3 h2 (by omega); omega⟩
theorem apply_f (k : Nat) (p f kind n d : Int) (hk : 2 ≤ k) : clock_Apply.f k p f kind n d = some (applyS p f kind n d) := by
  obtain ⟨k, rfl⟩ : ∃ m, k = m + 1 := ⟨k - 1, by omega⟩
  unfold clock_Apply.f applyS
  rw [factor_f _ _ _ _ (by omega), right_f]
  simp only [Option.bind_some]
  by_cases hr : rightB p f = true
  · rw [if_pos hr, if_pos hr]
    have hb := rightB_iff.1 hr
    simp only [clock_Apply.j0]
    by_cases hf : factorS kind n d = 0
    · rw [if_pos hf, if_pos hf]
      unfold factorS at hf
      by_cases h3 : kind = 3
      · rw [if_neg (by omega), if_pos (by omega)] at hf
        have hn : ¬ (n < 1 ∨ n > 100) := by intro h; rw [if_pos h] at hf; omega
        have hq : p / n ≤ p := Int.ediv_le_self _ (by omega)
        have hq0 : 0 ≤ p / n := Int.ediv_nonneg (by omega) (by omega)
        rw [if_pos h3, if_pos h3, if_neg (by omega), fin_j _ _ _ _ (by omega), tmod_pos (by omega), tdiv_pos (by omega), wrap64_id (by omega) (by omega)]
      · rw [if_neg h3, if_neg h3]
        by_cases h4 : kind = 4
        · rw [if_neg (by omega), if_pos (by omega)] at hf
          have hn : ¬ (n < 1 ∨ n > 100) := by intro h; rw [if_pos h] at hf; omega
          have hm := mul_le p n (by omega) (by omega) (by omega) (by omega)
          rw [if_pos h4, if_pos h4, fin_j _ _ _ _ (by omega), wrap64_id (by omega) (by omega)]
        · rw [if_neg h4, if_neg h4]
          by_cases h5 : kind = 5
          · rw [if_pos h5] at hf
            have hn : ¬ (d < 1 ∨ d > 100 ∨ n < 0 ∨ n > 100) := by intro h; rw [if_pos h] at hf; omega
            have hm := mul_le p n (by omega) (by omega) (by omega) (by omega)
            have hq : p * n / d ≤ p * n := Int.ediv_le_self _ (by omega)
            have hq0 : 0 ≤ p * n / d := Int.ediv_nonneg (by omega) (by omega)
            rw [if_pos h5, if_pos h5, if_neg (by omega), fin_j _ _ _ _ (by omega), wrap64_id (n := p * n) (by omega) (by omega), tmod_pos (by omega), tdiv_pos (by omega), wrap64_id (n := p * n / d) (by omega) (by omega), wrap64_id (by omega) (by omega)]
          · rw [if_neg h5, if_neg h5]
            rw [fin_j _ _ _ _ (by omega), fin_j _ _ _ _ (by omega), fin_j _ _ _ _ (by omega), wrap64_id (by omega) (by omega), wrap64_id (by omega) (by omega)]
            (repeat' split) <;> rfl
    · rw [if_neg hf, if_neg hf]
  · rw [if_neg hr, if_neg hr]
    simp only [clock_Apply.j0]
    rw [if_neg (by omega)]
def Q (t : Int × Int × Int) : Prop := t.2.2 = 0 → rightB t.1 t.2.1 = true
theorem fin_right (ok : Bool) (p f : Int) : Q (fin ok p f) := by
  unfold Q fin
  intro h
  (repeat' split at h) <;> simp_all
theorem applyS_right (p f kind n d : Int) : Q (applyS p f kind n d) := by
  unfold applyS
  (repeat' split) <;> first | exact fin_right _ _ _ | (rename_i h; exact fun h' => absurd h' h) | (intro h; cases h)
def allS : Int → Int → List S56 → Int × Int × Int
  | p, f, [] => (p, f, 0)
  | p, f, o :: l => if (applyS p f o.f0 o.f1 o.f2).2.2 = 0 then allS (applyS p f o.f0 o.f1 o.f2).1 (applyS p f o.f0 o.f1 o.f2).2.1 l else (0, 0, (applyS p f o.f0 o.f1 o.f2).2.2)
theorem all_l0 (l : List S56) (hl : (l.length : Int) ≤ 9223372036854775807) : ∀ (d i k : Nat) (p f : Int), i + d = l.length → d + 3 ≤ k → clock_All.l0 k l l.length i p f = some (allS p f (l.drop i))
  | 0, i, k, p, f, hi, hk => by
    obtain ⟨k, rfl⟩ : ∃ m, k = m + 1 := ⟨k - 1, by omega⟩
    simp only [clock_All.l0]
    rw [if_neg (by omega), List.drop_of_length_le (by omega)]
    rfl
  | d + 1, i, k, p, f, hi, hk => by
    obtain ⟨k, rfl⟩ : ∃ m, k = m + 1 := ⟨k - 1, by omega⟩
    have hlt : i < l.length := by omega
    have hrd : rd_T56 l (i : Int) = l[i] := by simp [rd_T56, hlt]
    simp only [clock_All.l0]
    rw [if_pos (by omega), if_pos (by omega), if_pos (by omega), hrd, List.drop_eq_getElem_cons hlt, apply_f _ _ _ _ _ _ (by omega)]
    simp only [Option.bind_some, allS]
    by_cases h : (applyS p f l[i].f0 l[i].f1 l[i].f2).2.2 = 0
    · rw [if_pos h, if_pos h, wrap64_id (by omega) (by omega)]
      exact all_l0 l hl d (i + 1) k _ _ (by omega) (by omega)
    · rw [if_neg h, if_neg h]
theorem all_f (l : List S56) (hl : (l.length : Int) ≤ 9223372036854775807) (k : Nat) (p f : Int) (hk : l.length + 3 ≤ k) : clock_All.f k p f l = some (if rightB p f = true then allS p f l else (0, 0, 12)) := by
  unfold clock_All.f
  rw [right_f]
  simp only [Option.bind_some]
  split
  · exact all_l0 l hl l.length 0 k p f (by omega) hk
  · rfl
end Go.Proofs.Ytkiaglpkijhbmaa.CIndexDates
