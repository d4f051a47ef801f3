/- A hyperperiod is divisible by each period, and that of all clocks is that of the first ones', and the last one (ClockDivides): for all lists of clocks, no condition. -/
import Derived.Test.YtkiaglpkijhbmaaOpenKd
import Derived.Test.YtkiaglpkijhbmaaCClockDivides
import Derived.Test.YtkiaglpkijhbmaaAClockDivides
import Derived.Test.YtkiaglpkijhbmaaPClockDividesx4
namespace Go.Proofs.Ytkiaglpkijhbmaa.Pure
open Go.RowKit Go.Proofs.Ytkiaglpkijhbmaa.PClockDivides Go.Proofs.YtkiaglpkijhbmaaW.PrintWords Go.Proofs.YtkiaglpkijhbmaaW.PrintMore Go.Proofs.YtkiaglpkijhbmaaW.PrintLast Go.Proofs.Ytkiaglpkijhbmaa.Math Go.Proofs.Ytkiaglpkijhbmaa.OpenKd Go.Proofs.Ytkiaglpkijhbmaa.CClockDivides Go.Proofs.Ytkiaglpkijhbmaa.AClockDivides

def lcmI (h p : Int) : Int := h / (Int.gcd h p : Int) * p
theorem lcmI_bd {h p : Int} (h0 : 1 ≤ h) (h1 : h ≤ 2000) (p0 : 1 ≤ p) (p1 : p ≤ 2000) : 1 ≤ lcmI h p ∧ lcmI h p ≤ 4000000 := by
  refine ⟨lcm_mul_pos h0 p0, ?_⟩
  have hg := gcd_pos (y := p) h0
  have hq : h / (Int.gcd h p : Int) ≤ h := Int.ediv_le_self _ (by omega)
  have hq0 : 0 ≤ h / (Int.gcd h p : Int) := Int.ediv_nonneg (by omega) (by omega)
  have := Int.mul_le_mul (show h / (Int.gcd h p : Int) ≤ 2000 by omega) p1 (by omega) (by omega)
  unfold lcmI
  omega
theorem lcm_two {h p : Int} (h0 : 1 ≤ h) (h1 : h ≤ 2000) (p0 : 1 ≤ p) (p1 : p ≤ 2000) : lcmS 1 [h, p] = (lcmI h p, true) := by
  have hb := lcmI_bd h0 h1 p0 p1
  unfold lcmI at hb ⊢
  simp only [lcmS]
  have e : (1 : Int) / ((Int.gcd 1 h : Nat) : Int) * h = h := by simp
  rw [if_neg (by omega), e, if_pos (by omega), if_neg (by omega), if_pos (by omega)]
theorem lcm_call (k : Nat) {h p : Int} (h0 : 1 ≤ h) (h1 : h ≤ 2000) (p0 : 1 ≤ p) (p1 : p ≤ 2000) (hk : 9223372036854775820 ≤ k) : arith_Lcm.f k [h, p] = some (lcmI h p, true) := by
  rw [lcm_f [h, p] (by simp; omega) (by simp) k (by simp; omega), lcm_two h0 h1 p0 p1]
def hypS : Int → List S48 → Int × Int
  | h, [] => (h, 0)
  | h, c :: l => if lcmI h c.f0 > 2000 then (0, 8) else hypS (lcmI h c.f0) l
def AllR (l : List S48) : Prop := ∀ c ∈ l, rightB c.f0 c.f1 = true
theorem hyper_l1 (l : List S48) (hr : AllR l) (hl : (l.length : Int) ≤ 9223372036854775807) : ∀ (d i k : Nat) (h : Int), 1 ≤ h → h ≤ 2000 → i + d = l.length → d + 9223372036854775830 ≤ k → clock_Hyper.l1 k h l l.length i = some (hypS h (l.drop i))
  | 0, i, k, h, _, _, hi, hk => by
    obtain ⟨k, rfl⟩ : ∃ m, k = m + 1 := ⟨k - 1, by omega⟩
    simp only [clock_Hyper.l1]
    rw [if_neg (by omega), List.drop_of_length_le (by omega)]
    rfl
  | d + 1, i, k, h, h0, h1, hi, hk => by
    obtain ⟨k, rfl⟩ : ∃ m, k = m + 1 := ⟨k - 1, by omega⟩
    have hlt : i < l.length := by omega
    have hrd : rd_T48 l (i : Int) = l[i] := by simp [rd_T48, hlt]
    have hc := rightB_iff.1 (hr l[i] (List.getElem_mem hlt))
    have hb := lcmI_bd h0 h1 hc.1 hc.2.1
    simp only [clock_Hyper.l1]
    rw [if_pos (by omega), if_pos (by omega), if_pos (by omega), hrd, List.drop_eq_getElem_cons hlt, lcm_call _ h0 h1 hc.1 hc.2.1 (by omega)]
    simp only [Option.bind_some, hypS, if_true]
    split
    · rfl
    · rw [wrap64_id (by omega) (by omega)]
      exact hyper_l1 l hr hl d (i + 1) k _ hb.1 (by omega) (by omega) (by omega)
theorem hyper_l0 (l : List S48) (hl : (l.length : Int) ≤ 9223372036854775807) : ∀ (d i k : Nat), i + d = l.length → d + l.length + 9223372036854775840 ≤ k → (∀ j (h : j < l.length), j < i → rightB l[j].f0 l[j].f1 = true) →
    (clock_Hyper.l0 k l 1 l l.length i = some (0, 12) ∧ ¬ AllR l) ∨ (clock_Hyper.l0 k l 1 l l.length i = some (hypS 1 l) ∧ AllR l)
  | 0, i, k, hi, hk, hj => by
    obtain ⟨k, rfl⟩ : ∃ m, k = m + 1 := ⟨k - 1, by omega⟩
    have hr : AllR l := by
      intro c hc
      obtain ⟨j, hjl, rfl⟩ := List.getElem_of_mem hc
      exact hj j hjl (by omega)
    refine .inr ⟨?_, hr⟩
    simp only [clock_Hyper.l0]
    rw [if_neg (by omega)]
    exact hyper_l1 l hr hl l.length 0 k 1 (by omega) (by omega) (by omega) (by omega)
  | d + 1, i, k, hi, hk, hj => by
    obtain ⟨k, rfl⟩ : ∃ m, k = m + 1 := ⟨k - 1, by omega⟩
    have hlt : i < l.length := by omega
    have hrd : rd_T48 l (i : Int) = l[i] := by simp [rd_T48, hlt]
    simp only [clock_Hyper.l0]
    rw [if_pos (by omega), if_pos (by omega), if_pos (by omega), hrd, right_f]
    simp only [Option.bind_some]
    by_cases h : rightB l[i].f0 l[i].f1 = true
    · rw [if_pos h, wrap64_id (by omega) (by omega)]
      exact hyper_l0 l hl d (i + 1) k (by omega) (by omega) fun j hjl hji => by
        rcases Nat.lt_or_ge j i with hh | hh
        · exact hj j hjl hh
        · obtain rfl : j = i := by omega
          exact h
    · rw [if_neg h]
      exact .inl ⟨rfl, fun ha => h (ha l[i] (List.getElem_mem hlt))⟩
theorem hyper_f (l : List S48) (hl : (l.length : Int) ≤ 9223372036854775807) (k : Nat) (hk : 2 * l.length + 9223372036854775840 ≤ k) :
    (clock_Hyper.f k l = some (0, 12) ∧ ¬ AllR l) ∨ (clock_Hyper.f k l = some (hypS 1 l) ∧ AllR l) := by
  unfold clock_Hyper.f
  exact hyper_l0 l hl l.length 0 k (by omega) (by omega) fun j _ h => by omega
theorem hypS_tells : ∀ (l : List S48) (h : Int), 1 ≤ h → h ≤ 2000 → AllR l → (hypS h l = (0, 8)) ∨ ((hypS h l).2 = 0 ∧ 1 ≤ (hypS h l).1 ∧ (hypS h l).1 ≤ 2000 ∧ h ∣ (hypS h l).1 ∧ ∀ c ∈ l, c.f0 ∣ (hypS h l).1)
  | [], h, h0, h1, _ => .inr ⟨rfl, h0, h1, Int.dvd_refl _, fun c hc => by cases hc⟩
  | c :: l, h, h0, h1, hr => by
    have hc := rightB_iff.1 (hr c (by simp))
    have hb := lcmI_bd h0 h1 hc.1 hc.2.1
    unfold hypS
    split
    · exact .inl rfl
    · rcases hypS_tells l _ hb.1 (by omega) (fun x hx => hr x (by simp [hx])) with e | ⟨a, b, b', d, e⟩
      · exact .inl e
      · refine .inr ⟨a, b, b', Int.dvd_trans dvd_lcm_left d, fun x hx => ?_⟩
        rcases List.mem_cons.1 hx with rfl | hx
        · exact Int.dvd_trans dvd_lcm_right d
        · exact e x hx
theorem hypS_snoc : ∀ (l : List S48) (c : S48) (h : Int), 1 ≤ h → h ≤ 2000 → AllR l → hypS h (l ++ [c]) = if (hypS h l).2 = 0 then (if lcmI (hypS h l).1 c.f0 > 2000 then (0, 8) else (lcmI (hypS h l).1 c.f0, 0)) else hypS h l
  | [], c, h, _, _, _ => by simp [hypS]
  | d :: l, c, h, h0, h1, hr => by
    have hc := rightB_iff.1 (hr d (by simp))
    have hb := lcmI_bd h0 h1 hc.1 hc.2.1
    simp only [List.cons_append, hypS]
    split
    · simp
    · exact hypS_snoc l c _ hb.1 (by omega) (fun x hx => hr x (by simp [hx]))

theorem awake_f : horariumlaw02_awake.f 10 = some true := by decide +kernel
theorem awake_k (k : Nat) (hk : 10 ≤ k) : horariumlaw02_awake.f k = some true := at_rounds horariumlaw02_awake.mono hk awake_f
theorem refright_f (p f : Int) : horariumref02_Right.f p f = some (rightB p f) := by
  unfold horariumref02_Right.f rightB
  (repeat' split) <;> (congr 1; rw [Bool.eq_iff_iff]; simp; try omega)
/-- The loop over all, and what is asked behind it. -/
theorem loop (l : List S48) (hr : AllR l) (hne : l ≠ []) (hl : l.length ≤ 20) (he : (hypS 1 l).2 = 0) : ∀ (d i k : Nat), i + d = l.length → d + 9223372036854775900 ≤ k → horariumlaw02_ClockDivides.l0 k l (hypS 1 l).1 i = some true
  | 0, i, k, hi, hk => by
    obtain ⟨k, rfl⟩ : ∃ m, k = m + 1 := ⟨k - 1, by omega⟩
    have hpos : 0 < l.length := List.length_pos_iff.2 hne
    simp only [horariumlaw02_ClockDivides.l0]
    have hw : wrap64 ((l.length : Int) - 1) = ((l.length - 1 : Nat) : Int) := by rw [wrap64_id (by omega) (by omega)]; omega
    rw [if_neg (by omega), hw, if_pos (by omega), if_pos (by omega)]
    have hlast : ((l.length - 1 : Nat) : Int) < (l.length : Int) := by omega
    simp only [if_pos hlast]
    clear hlast
    have hsplit : l = l.take (l.length - 1) ++ [l[l.length - 1]] := by
      conv => lhs; rw [← List.take_append_drop (l.length - 1) l]
      congr 1
      rw [List.drop_eq_getElem_cons (by omega), List.drop_of_length_le (by omega)]
    have hrd : rd_T48 l ((l.length - 1 : Nat) : Int) = l[l.length - 1] := by
      simp [rd_T48]
      rw [List.getElem?_eq_getElem (by omega)]
      rfl
    rw [hrd, show ((l.length - 1 : Nat) : Int).toNat = l.length - 1 by omega]
    generalize hc : l[l.length - 1] = c at *
    generalize hl' : l.take (l.length - 1) = l' at *
    have hr' : AllR l' := fun x hx => hr x (by rw [hsplit]; simp [hx])
    have hrc : rightB c.f0 c.f1 = true := hr c (by rw [hsplit]; simp)
    have hll : l'.length ≤ 20 := by rw [← hl', List.length_take]; omega
    have hc' := rightB_iff.1 hrc
    rcases hyper_f l' (by omega) k (by omega) with ⟨_, hn⟩ | ⟨h1, _⟩
    · exact absurd hr' hn
    rw [h1]
    simp only [Option.bind_some]
    rw [hsplit, hypS_snoc l' c 1 (by omega) (by omega) hr'] at he ⊢
    rcases hypS_tells l' 1 (by omega) (by omega) hr' with e | ⟨a, b, b', _, _⟩
    · rw [e] at he
      simp at he
    · rw [if_pos a] at he ⊢
      have hlc := lcmI_bd b b' hc'.1 hc'.2.1
      by_cases hgt : lcmI (hypS 1 l').1 c.f0 > 2000
      · rw [if_pos hgt] at he
        simp at he
      · rw [if_neg hgt]
        have hmx : mx (hypS 1 l').1 1 = (hypS 1 l').1 := by unfold mx; omega
        rw [hmx]
        have hr2 : AllR [(⟨(hypS 1 l').1, 0⟩ : S48), ⟨c.f0, c.f1⟩] := by
          intro x hx
          simp only [List.mem_cons, List.not_mem_nil, or_false] at hx
          rcases hx with rfl | rfl
          · exact rightB_iff.2 ⟨b, b', by simp, by simp⟩
          · exact hrc
        rcases hyper_f [(⟨(hypS 1 l').1, 0⟩ : S48), ⟨c.f0, c.f1⟩] (by simp) k (by simp; omega) with ⟨_, hn⟩ | ⟨h2, _⟩
        · exact absurd hr2 hn
        rw [h2]
        simp only [Option.bind_some]
        have e1 : lcmI 1 (hypS 1 l').1 = (hypS 1 l').1 := by unfold lcmI; simp
        have e2 : hypS 1 [(⟨(hypS 1 l').1, 0⟩ : S48), ⟨c.f0, c.f1⟩] = (lcmI (hypS 1 l').1 c.f0, 0) := by
          simp only [hypS, e1]
          rw [if_neg (by omega), if_neg hgt]
        rw [e2, if_pos a]
        simp
  | d + 1, i, k, hi, hk => by
    obtain ⟨k, rfl⟩ : ∃ m, k = m + 1 := ⟨k - 1, by omega⟩
    have hlt : i < l.length := by omega
    have hrd : rd_T48 l (i : Int) = l[i] := by simp [rd_T48, hlt]
    have hrc := hr l[i] (List.getElem_mem hlt)
    have hc := rightB_iff.1 hrc
    simp only [horariumlaw02_ClockDivides.l0]
    rw [if_pos (by omega), if_pos (by omega), hrd, refright_f, hrc]
    simp only [Option.bind_some, if_true]
    rcases hypS_tells l 1 (by omega) (by omega) hr with e | ⟨_, b, _, _, e⟩
    · rw [e] at he
      simp at he
    · rw [if_neg (by omega), tmod_pos (by omega), Int.emod_eq_zero_of_dvd (e l[i] (List.getElem_mem hlt)), if_pos rfl, wrap64_id (by omega) (by omega)]
      exact loop l hr hne hl he d (i + 1) k (by omega) (by omega)

theorem ClockDivides (l : List S48) (hl : l.length ≤ 9223372036854775807) : ∃ k, horariumlaw02_ClockDivides.f k l = some true := by
  refine ⟨9223372036854776000, ?_⟩
  unfold horariumlaw02_ClockDivides.f
  rw [awake_k _ (by omega)]
  simp only [Option.bind_some, if_true]
  have hj : ∀ b : Bool, b = decide (l.length > 20 ∨ l.length = 0) → horariumlaw02_ClockDivides.j0 9223372036854776000 l b = some true := by
    intro b hb
    simp only [horariumlaw02_ClockDivides.j0]
    by_cases h : l.length > 20 ∨ l.length = 0
    · rw [if_pos (by rw [hb]; simpa using h), awake_k _ (by omega)]
      rfl
    · rw [if_neg (by rw [hb]; simpa using h)]
      rcases hyper_f l (by omega) 9223372036854775999 (by omega) with ⟨h1, _⟩ | ⟨h1, hr⟩
      · rw [h1]
        rfl
      · rw [h1]
        simp only [Option.bind_some]
        by_cases he : (hypS 1 l).2 = 0
        · rw [if_pos he]
          exact loop l hr (by rintro rfl; simp at h) (by omega) he l.length 0 _ (by omega) (by omega)
        · rw [if_neg he]
          rcases hypS_tells l 1 (by omega) (by omega) hr with e | ⟨a, _⟩
          · rw [e]; rfl
          · exact absurd a he
  by_cases h20 : (l.length : Int) > 20
  · rw [if_pos h20]
    exact hj true (by symm; simp; omega)
  · rw [if_neg h20]
    refine hj _ ?_
    rw [Bool.eq_iff_iff]
    simp
    omega

theorem op48 (n : Nat) : OpN Try.prog 48 k48 (fun _ => True) n := by
  cases n with
  | zero => exact op_zero _ _ _ _
  | succ n => exact (op_struct (f := fun x : S48 => (x.f0, x.f1)) (g := fun y => ⟨y.1, y.2⟩) (fun _ => rfl) Try.underlying48 (fs_cons (o := 0) (o' := 1) rfl (by kernel_rfl) (op_int Try.underlying2 n) (fs_last rfl (by kernel_rfl) (op_int Try.underlying2 n)))).imp fun _ _ => trivial
theorem walk (w : World) (A : Option Addr) (c : Nat) (l : List S48) (hc : l.length ≤ c) (hC : Kd.C k48 w A l.length l) (hm : l.length ≤ maxLen) (_ : ∀ x ∈ l, True) :
    Calls Try.prog 14 #[.slice A l.length c] w fun e w' => e = .returned (.bool true) ∧ Below w.heap.size w w' := by
  unfold maxLen at hm
  obtain ⟨k, hk⟩ := ClockDivides l (by omega)
  exact horariumlaw02_ClockDivides.calls k A c l true w hC hc hk
end Go.Proofs.Ytkiaglpkijhbmaa.Pure
