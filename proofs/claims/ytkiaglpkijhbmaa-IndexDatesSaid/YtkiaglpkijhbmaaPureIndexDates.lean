/- On right clocks what is read is never of a later date, and of an earlier one where the operators say so (IndexDates): for all clocks, slices of operators, and 16-bit numbers; no condition. -/
import Derived.Test.YtkiaglpkijhbmaaOpenKd
import Derived.Test.YtkiaglpkijhbmaaCIndexDates
import Derived.Test.YtkiaglpkijhbmaaRIndexDatesx4
namespace Go.Proofs.Ytkiaglpkijhbmaa.Pure
open Go.RowKit Go.Proofs.Ytkiaglpkijhbmaa.PIndexDates Go.Proofs.YtkiaglpkijhbmaaW.PrintWords Go.Proofs.YtkiaglpkijhbmaaW.PrintMore Go.Proofs.YtkiaglpkijhbmaaW.PrintLast Go.Proofs.Ytkiaglpkijhbmaa.Math Go.Proofs.Ytkiaglpkijhbmaa.OpenKd Go.Proofs.Ytkiaglpkijhbmaa.CIndexDates

theorem inB_iff {n : Int} : inB n = true ↔ 0 ≤ n ∧ n ≤ 1099511627776 := by simp [inB]
theorem awake_f : horariumlaw07_awake.f = some true := by decide +kernel
/-- Operators that may be. -/
def OkO (o : S56) : Prop := 3 ≤ o.f0 ∧ o.f0 ≤ 8 ∧ (o.f0 < 5 → 1 ≤ o.f1 ∧ o.f1 ≤ 100) ∧ (o.f0 = 5 → 0 ≤ o.f1 ∧ o.f1 ≤ 100 ∧ 1 ≤ o.f2 ∧ o.f2 ≤ 100)
def RightR (l : List S56) : Prop := (∀ o ∈ l, OkO o) ∧ l.length ≤ 20
theorem right_l0 (l : List S56) (hl : (l.length : Int) ≤ 9223372036854775807) : ∀ (d i k : Nat), i + d = l.length → d < k → (∀ o ∈ l.take i, OkO o) → ∃ b, horariumref07_Right.l0 k l i = some b ∧ (b = true ↔ RightR l)
  | 0, i, k, hi, hk, hp => by
    obtain ⟨k, rfl⟩ : ∃ m, k = m + 1 := ⟨k - 1, by omega⟩
    simp only [horariumref07_Right.l0]
    rw [if_neg (by omega)]
    rw [List.take_of_length_le (by omega)] at hp
    exact ⟨_, rfl, by simp [RightR]; exact ⟨fun h => ⟨hp, by omega⟩, fun h => by omega⟩⟩
  | d + 1, i, k, hi, hk, hp => by
    obtain ⟨k, rfl⟩ : ∃ m, k = m + 1 := ⟨k - 1, by omega⟩
    have hlt : i < l.length := by omega
    have hrd : rd_T56 l (i : Int) = l[i] := by simp [rd_T56, hlt]
    have hno : ¬ OkO l[i] → ∃ b, some false = some b ∧ (b = true ↔ RightR l) := fun hn => ⟨false, rfl, by simp [RightR]; intro h; exact absurd (h _ (List.getElem_mem hlt)) hn⟩
    have hyes : OkO l[i] → ∃ b, horariumref07_Right.l0 k l (wrap64 ((i : Int) + 1)) = some b ∧ (b = true ↔ RightR l) := by
      intro ho
      rw [wrap64_id (by omega) (by omega)]
      refine right_l0 l hl d (i + 1) k (by omega) (by omega) ?_
      intro o ho'
      rw [List.take_succ_eq_append_getElem hlt] at ho'
      rcases List.mem_append.1 ho' with h | h
      · exact hp o h
      · simp at h; rw [h]; exact ho
    simp only [horariumref07_Right.l0]
    rw [if_pos (by omega), if_pos (by omega), hrd]
    generalize l[i] = o at *
    (repeat' split) <;> first | (apply hno; unfold OkO; omega) | (apply hyes; unfold OkO; omega)
theorem right_f (l : List S56) (hl : (l.length : Int) ≤ 9223372036854775807) (k : Nat) (hk : l.length < k) : ∃ b, horariumref07_Right.f k l = some b ∧ (b = true ↔ RightR l) :=
  right_l0 l hl l.length 0 k (by omega) hk (by simp)
theorem mul_le {a b : Int} (h0 : 0 ≤ a) (h1 : a ≤ 1099511627776) (h2 : 0 ≤ b) (h3 : b ≤ 100) : 0 ≤ a * b ∧ a * b ≤ 109951162777600 :=
  ⟨Int.mul_nonneg h0 h2, by have := Int.mul_le_mul h1 h3 h2 (by omega); omega⟩

theorem date_f (p f n : Int) (h : rightB p f = true) (h0 : 0 ≤ n) (h1 : n ≤ 1099511627776) : clock_Date.f p f n = some (f + n * p) := by
  have hb := rightB_iff.1 h
  have hm : 0 ≤ n * p ∧ n * p ≤ 2199023255552000 := ⟨Int.mul_nonneg h0 (by omega), by have := Int.mul_le_mul h1 hb.2.1 (by omega) (by omega); omega⟩
  unfold clock_Date.f
  rw [CIndexDates.right_f, h]
  simp only [Option.bind_some, if_true]
  rw [if_neg (by omega), if_neg (by omega), wrap64_id (n := n * p) (by omega) (by omega), wrap64_id (by omega) (by omega)]

/-- What an operator does to dates. -/
theorem one_date {p f m j : Int} {o : S56} (hr : rightB p f = true) (ha : (applyS p f o.f0 o.f1 o.f2).2.2 = 0) (hm : 0 ≤ m ∧ m ≤ 1099511627776) (hj : oneS o m = some j) :
    f + j * p ≤ (applyS p f o.f0 o.f1 o.f2).2.1 + m * (applyS p f o.f0 o.f1 o.f2).1 ∧ (laterO o = true → f + j * p < (applyS p f o.f0 o.f1 o.f2).2.1 + m * (applyS p f o.f0 o.f1 o.f2).1) := by
  have hb := rightB_iff.1 hr
  have hfac : factorS o.f0 o.f1 o.f2 = 0 := by
    unfold applyS at ha
    rw [if_pos hr] at ha
    by_cases h : factorS o.f0 o.f1 o.f2 = 0
    · exact h
    · rw [if_neg h] at ha
      exact absurd ha h
  have hfin : ∀ ok a b, (fin ok a b).2.2 = 0 → ok = true ∧ fin ok a b = (a, b, 0) := by
    intro ok a b h
    unfold fin at h ⊢
    by_cases h1 : ok = true
    · rw [if_pos h1] at h ⊢
      by_cases h2 : rightB a b = true
      · rw [if_pos h2]; exact ⟨h1, rfl⟩
      · rw [if_neg h2] at h; cases h
    · rw [if_neg h1] at h; cases h
  unfold applyS at ha ⊢
  rw [if_pos hr, if_pos hfac] at ha ⊢
  unfold factorS at hfac
  by_cases h3 : o.f0 = 3
  · rw [if_pos h3] at ha ⊢
    obtain ⟨h1, h2⟩ := hfin _ _ _ ha
    rw [h2]
    rw [if_neg (by omega), if_pos (by omega)] at hfac
    have hn : ¬ (o.f1 < 1 ∨ o.f1 > 100) := by intro h; rw [if_pos h] at hfac; omega
    have hd : p % o.f1 = 0 := by simpa using h1
    have hp : p / o.f1 * o.f1 = p := Int.ediv_mul_cancel (Int.dvd_of_emod_eq_zero hd)
    have hs : stepS o m = (m / o.f1, 1) := by
      have hq : m / o.f1 ≤ m := Int.ediv_le_self _ (by omega)
      have hq0 : 0 ≤ m / o.f1 := Int.ediv_nonneg (by omega) (by omega)
      unfold stepS
      rw [if_pos h3, if_pos (by omega), tdiv_pos hm.1, wrap64_id (by omega) (by omega)]
    have hj' : j = m / o.f1 := by
      unfold oneS at hj
      rw [hs] at hj
      simp at hj
      exact hj.2.symm
    have hl : laterO o = false := by simp [laterO, h3]
    rw [hl, hj']
    refine ⟨?_, by simp⟩
    have hq0 : 0 ≤ p / o.f1 := Int.ediv_nonneg (by omega) (by omega)
    have h5 : m / o.f1 * o.f1 ≤ m := Int.ediv_mul_le _ (by omega)
    have h6 : m / o.f1 * o.f1 * (p / o.f1) ≤ m * (p / o.f1) := Int.mul_le_mul_of_nonneg_right h5 hq0
    have h7 : m / o.f1 * o.f1 * (p / o.f1) = m / o.f1 * p := by rw [Int.mul_assoc, Int.mul_comm o.f1, hp]
    show f + m / o.f1 * p ≤ f + m * (p / o.f1)
    omega
  · rw [if_neg h3] at ha ⊢
    by_cases h4 : o.f0 = 4
    · rw [if_pos h4] at ha ⊢
      obtain ⟨_, h2⟩ := hfin _ _ _ ha
      rw [h2]
      rw [if_neg (by omega), if_pos (by omega)] at hfac
      have hn : ¬ (o.f1 < 1 ∨ o.f1 > 100) := by intro h; rw [if_pos h] at hfac; omega
      have hmm := mul_le hm.1 hm.2 (show 0 ≤ o.f1 by omega) (by omega)
      have hj' : j = m * o.f1 := by
        unfold oneS stepS at hj
        rw [if_neg h3, if_pos h4] at hj
        split at hj
        · rw [wrap64_id (by omega) (by omega)] at hj
          simp at hj
          exact hj.2.symm
        · simp at hj
      have hl : laterO o = false := by simp [laterO, h4]
      rw [hl, hj']
      refine ⟨?_, by simp⟩
      show f + m * o.f1 * p ≤ f + m * (p * o.f1)
      rw [Int.mul_assoc, Int.mul_comm o.f1 p]
      omega
    · rw [if_neg h4] at ha ⊢
      by_cases h5 : o.f0 = 5
      · rw [if_pos h5] at ha ⊢ hfac
        obtain ⟨h1, h2⟩ := hfin _ _ _ ha
        rw [h2]
        have hn : ¬ (o.f2 < 1 ∨ o.f2 > 100 ∨ o.f1 < 0 ∨ o.f1 > 100) := by intro h; rw [if_pos h] at hfac; omega
        have hd : p * o.f1 % o.f2 = 0 := by simpa using h1
        have hpn : 0 ≤ p * o.f1 := Int.mul_nonneg (by omega) (by omega)
        have hq0 : 0 ≤ p * o.f1 / o.f2 := Int.ediv_nonneg hpn (by omega)
        have hj' : j = m := by
          unfold oneS stepS at hj
          rw [if_neg h3, if_neg h4, if_pos h5] at hj
          simp at hj
          exact hj.2.symm
        rw [hj']
        refine ⟨?_, fun hl => ?_⟩
        · show f + m * p ≤ f + p * o.f1 / o.f2 + m * p
          omega
        · have hne : o.f1 ≠ 0 := by
            simp [laterO, h5] at hl
            exact hl
          have hpp : 1 ≤ p * o.f1 := by have := Int.mul_le_mul hb.1 (show 1 ≤ o.f1 by omega) (by omega) (by omega); omega
          have hq : p * o.f1 / o.f2 * o.f2 = p * o.f1 := Int.ediv_mul_cancel (Int.dvd_of_emod_eq_zero hd)
          have : p * o.f1 / o.f2 ≠ 0 := by
            intro h0
            rw [h0] at hq
            omega
          show f + m * p < f + p * o.f1 / o.f2 + m * p
          omega
      · rw [if_neg h5] at ha ⊢
        by_cases h7 : o.f0 = 7
        · rw [if_pos h7] at ha ⊢
          obtain ⟨_, h2⟩ := hfin _ _ _ ha
          rw [h2]
          have hj' : j = m + 1 := by
            unfold oneS stepS at hj
            rw [if_neg h3, if_neg h4, if_neg h5, if_pos h7, wrap64_id (by omega) (by omega)] at hj
            simp at hj
            exact hj.2.symm
          have hl : laterO o = false := by simp [laterO, h7]
          rw [hl, hj']
          refine ⟨?_, by simp⟩
          show f + (m + 1) * p ≤ f + p + m * p
          rw [Int.add_mul]
          omega
        · rw [if_neg h7] at ha ⊢
          by_cases h68 : o.f0 = 6 ∨ o.f0 = 8
          · have hj' : j = m - 1 := by
              unfold oneS stepS at hj
              rw [if_neg h3, if_neg h4, if_neg h5, if_neg h7, if_pos h68] at hj
              split at hj
              · simp at hj
              · rw [wrap64_id (by omega) (by omega)] at hj
                simp at hj
                exact hj.2.symm
            by_cases h8 : o.f0 = 8
            · rw [if_pos h8] at ha ⊢
              obtain ⟨_, h2⟩ := hfin _ _ _ ha
              rw [h2]
              have hl : laterO o = false := by simp [laterO, h8]
              rw [hl, hj']
              refine ⟨?_, by simp⟩
              show f + (m - 1) * p ≤ f - p + m * p
              rw [Int.sub_mul]
              omega
            · rw [if_neg h8] at ha ⊢
              obtain ⟨_, h2⟩ := hfin _ _ _ ha
              rw [h2, hj']
              have : f + (m - 1) * p < f + m * p := by rw [Int.sub_mul]; omega
              exact ⟨Int.le_of_lt this, fun _ => this⟩
          · exfalso
            rw [if_neg h5, if_neg (by omega), if_neg (by omega)] at hfac
            omega

theorem one_in {o : S56} {n m : Int} (h : oneS o n = some m) : 0 ≤ m ∧ m ≤ 1099511627776 := by
  unfold oneS at h
  split at h
  · cases h
  · split at h
    · cases h
    · split at h
      · rename_i hb
        have := Option.some.inj h
        rw [← this]
        exact inB_iff.1 hb
      · cases h
theorem reach_in : ∀ (l : List S56) (n m : Int), 0 ≤ n ∧ n ≤ 1099511627776 → reachS l n = some m → 0 ≤ m ∧ m ≤ 1099511627776
  | [], n, m, hn, h => by simp only [reachS, Option.some.injEq] at h; rw [← h]; exact hn
  | o :: l, n, m, _, h => by
    simp only [reachS] at h
    obtain ⟨x, hx, h⟩ := Option.bind_eq_some_iff.1 h
    exact reach_in l x m (one_in hx) h
theorem all_right : ∀ (l : List S56) (p f : Int), rightB p f = true → (allS p f l).2.2 = 0 → rightB (allS p f l).1 (allS p f l).2.1 = true
  | [], p, f, hr, _ => hr
  | o :: l, p, f, hr, h => by
    simp only [allS] at h ⊢
    by_cases ha : (applyS p f o.f0 o.f1 o.f2).2.2 = 0
    · rw [if_pos ha] at h ⊢
      exact all_right l _ _ (applyS_right p f o.f0 o.f1 o.f2 ha) h
    · rw [if_neg ha] at h
      exact absurd h ha
theorem all_date : ∀ (l : List S56) (p f n i : Int), rightB p f = true → (allS p f l).2.2 = 0 → 0 ≤ n ∧ n ≤ 1099511627776 → reachS l.reverse n = some i →
    f + i * p ≤ (allS p f l).2.1 + n * (allS p f l).1 ∧ (l.any laterO = true → f + i * p < (allS p f l).2.1 + n * (allS p f l).1)
  | [], p, f, n, i, _, _, _, h => by
    simp only [List.reverse_nil, reachS, Option.some.injEq] at h
    subst h
    simp [allS]
  | o :: l, p, f, n, i, hr, h0, hn, h => by
    rw [List.reverse_cons, reachS_snoc] at h
    obtain ⟨j, hj, h⟩ := Option.bind_eq_some_iff.1 h
    simp only [allS] at h0 ⊢
    by_cases ha : (applyS p f o.f0 o.f1 o.f2).2.2 = 0
    · rw [if_pos ha] at h0 ⊢
      have h1 := all_date l _ _ n j (applyS_right p f o.f0 o.f1 o.f2 ha) h0 hn hj
      have h2 := one_date hr ha (reach_in _ n j hn hj) h
      refine ⟨Int.le_trans h2.1 h1.1, fun hl => ?_⟩
      simp only [List.any_cons, Bool.or_eq_true] at hl
      rcases hl with hl | hl
      · exact Int.lt_of_lt_of_le (h2.2 hl) h1.1
      · exact Int.lt_of_le_of_lt h2.1 (h1.2 hl)
    · rw [if_neg ha] at h0
      exact absurd h0 ha
/-- What may be told. -/
theorem goS_none : ∀ (l : List S56) (n : Int), reachS l n = none → (goS l n).2.2 = 2 ∨ (goS l n).2.2 = 0
  | [], n, h => by simp [reachS] at h
  | o :: l, n, h => by
    simp only [reachS] at h
    simp only [goS]
    cases ho : oneS o n with
    | some m =>
      rw [ho] at h
      exact goS_none l m h
    | none =>
      simp only [stopS]
      split <;> simp

theorem IndexDates (p f : Int) (l : List S56) (hl : (l.length : Int) ≤ 9223372036854775807) (n : Int) (h0 : 0 ≤ n) (h1 : n ≤ 65535) : ∃ k, horariumlaw07_IndexDates.f k p f l n = some true := by
  refine ⟨l.length + 100, ?_⟩
  have hno : horariumlaw07_IndexDates.j0 (l.length + 100) l n true p f = some true := by
    simp only [horariumlaw07_IndexDates.j0, if_true]
    rw [awake_f]
    rfl
  unfold horariumlaw07_IndexDates.f
  rw [awake_f]
  simp only [Option.bind_some, if_true]
  obtain ⟨ra, ea, ha⟩ := Pure.right_f l hl (l.length + 100) (by omega)
  rw [ea]
  simp only [Option.bind_some]
  by_cases hra : ra = true
  · subst hra
    have hn : 0 ≤ n ∧ n ≤ 1099511627776 := ⟨h0, by omega⟩
    simp only [horariumlaw07_IndexDates.j0, Bool.not_true, Bool.false_eq_true, if_false]
    rw [all_f l hl _ p f (by omega)]
    simp only [Option.bind_some, index_Back.f]
    by_cases hr : rightB p f = true
    · simp only [hr, if_true]
      by_cases he : (allS p f l).2.2 = 0
      · rw [if_pos he, wrap64_id (by omega) (by omega)]
        have hbk : backS l n = goS l.reverse n := by unfold backS; rw [if_pos (inB_iff.2 hn)]
        rw [hbk]
        cases hre : reachS l.reverse n with
        | none =>
          rcases goS_none _ _ hre with e | e
          · rw [e]; simp
          · rw [e]; simp
        | some i =>
          have e2 := goS_reach l.reverse [] n i hre
          rw [List.append_nil] at e2
          rw [e2]
          simp only [goS, if_true]
          have hi := reach_in _ _ _ hn hre
          rw [date_f p f i hr hi.1 hi.2, date_f _ _ n (all_right l p f hr he) hn.1 hn.2]
          simp only [Option.bind_some, index_Later.f]
          have hd := all_date l p f n i hr he hn hre
          rw [if_pos hd.1]
          by_cases hla : l.any laterO = true
          · rw [if_pos hla]
            simp [hd.2 hla]
          · rw [if_neg hla]
      · rw [if_neg he]
    · simp [hr]
  · rw [show (!ra) = true by simpa using hra]
    exact hno

theorem op56 (n : Nat) : OpN Try.prog 56 k56 (fun _ => True) n := by
  cases n with
  | zero => exact op_zero _ _ _ _
  | succ n => exact (op_struct (f := fun x : S56 => (x.f0, x.f1, x.f2)) (g := fun y => ⟨y.1, y.2.1, y.2.2⟩) (fun _ => rfl) Try.underlying56 (fs_cons (o := 0) (o' := 1) rfl (by kernel_rfl) (op_int Try.underlying3 n) (fs_cons (o := 1) (o' := 2) rfl (by kernel_rfl) (op_int Try.underlying2 n) (fs_last rfl (by kernel_rfl) (op_int Try.underlying2 n))))).imp fun _ _ => trivial
/-- A clock's two cells. -/
def kc : Kd (Int × Int) := Kd.iso (Kd.pair (Kd.int .i64) (Kd.int .i64)) (fun x => x)
theorem opc (n : Nat) : OpN Try.prog 48 kc (fun _ => True) n := by
  cases n with
  | zero => exact op_zero _ _ _ _
  | succ n => exact (op_struct (f := fun x : Int × Int => x) (g := fun y => y) (fun _ => rfl) Try.underlying48 (fs_cons (o := 0) (o' := 1) rfl (by kernel_rfl) (op_int Try.underlying2 n) (fs_last rfl (by kernel_rfl) (op_int Try.underlying2 n)))).imp fun _ _ => trivial
theorem kc_open {w : World} {x : Int × Int} {cs : List Value} (h : kc.K w x cs) : cs = [.int .i64 x.1, .int .i64 x.2] := by
  obtain ⟨_, _, rfl, rfl, rfl⟩ := h
  rfl
theorem walk (w : World) (x : Int × Int) (cs : List Value) (hK : kc.K w x cs) (_ : True) (A : Option Addr) (c : Nat) (l : List S56) (hc : l.length ≤ c) (hC : Kd.C k56 w A l.length l) (hm : l.length ≤ maxLen) (_ : ∀ x ∈ l, True) (n : Int) (hn : (Lit.int .u16 n).wf = true) :
    Calls Try.prog 15 #[.agg cs.toArray, .slice A l.length c, .int .u16 n] w fun e w' => e = .returned (.bool true) ∧ Below w.heap.size w w' := by
  obtain rfl := kc_open hK
  unfold maxLen at hm
  have hb := bounds_u16 hn
  obtain ⟨k, hk⟩ := IndexDates x.1 x.2 l (by omega) n hb.1 hb.2
  exact horariumlaw07_IndexDates.calls k x.1 x.2 A c l n true w hC hc hk
end Go.Proofs.Ytkiaglpkijhbmaa.Pure
