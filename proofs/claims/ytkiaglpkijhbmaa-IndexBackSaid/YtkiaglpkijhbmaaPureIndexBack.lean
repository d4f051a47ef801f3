/- Of all operators, and places, it is told where the value comes from (IndexBack): for all slices of operators and all 64-bit numbers, no condition. -/
import Derived.Test.YtkiaglpkijhbmaaOpenKd
import Derived.Test.YtkiaglpkijhbmaaRIndexBackx3
namespace Go.Proofs.Ytkiaglpkijhbmaa.Pure
open Go.RowKit Go.Proofs.Ytkiaglpkijhbmaa.PIndexBack Go.Proofs.YtkiaglpkijhbmaaW.PrintWords Go.Proofs.YtkiaglpkijhbmaaW.PrintMore Go.Proofs.YtkiaglpkijhbmaaW.PrintLast Go.Proofs.Ytkiaglpkijhbmaa.Math Go.Proofs.Ytkiaglpkijhbmaa.OpenKd

theorem inB_iff {n : Int} : inB n = true ↔ 0 ≤ n ∧ n ≤ 1099511627776 := by simp [inB]
theorem awake_f : horariumlaw07_awake.f = some true := by decide +kernel
/-- Operators that may be. -/
def OkO (o : S56) : Prop := 3 ≤ o.f0 ∧ o.f0 ≤ 8 ∧ (o.f0 < 5 → 1 ≤ o.f1 ∧ o.f1 ≤ 100) ∧ (o.f0 = 5 → 0 ≤ o.f1 ∧ o.f1 ≤ 100 ∧ 1 ≤ o.f2 ∧ o.f2 ≤ 100)
def RightR (l : List S56) : Prop := (∀ o ∈ l, OkO o) ∧ l.length ≤ 20
theorem right_l0 (l : List S56) (hl : (l.length : Int) ≤ 9223372036854775807) : ∀ (d i k : Nat), i + d = l.length → d < k → (∀ o ∈ l.take i, OkO o) → ∃ b, horariumref07_Right.l0 k l i = some b ∧ (b = true ↔ RightR l)
  | 0, i, k, hi, hk, hp => by
    obtain ⟨k, rfl⟩ : ∃ m, k = m + 1 := ⟨k - 1, by omega⟩
    simp only [horariumref07_Right.l0]
    rw [if_neg (by omega)]
    rw [List.take_of_length_le (by omega)] at hp
    exact ⟨_, rfl, by simp [RightR]; exact ⟨fun h => ⟨hp, by omega⟩, fun h => by omega⟩⟩
  | d + 1, i, k, hi, hk, hp => by
    obtain ⟨k, rfl⟩ : ∃ m, k = m + 1 := ⟨k - 1, by omega⟩
    have hlt : i < l.length := by omega
    have hrd : rd_T56 l (i : Int) = l[i] := by simp [rd_T56, hlt]
    have hno : ¬ OkO l[i] → ∃ b, some false = some b ∧ (b = true ↔ RightR l) := fun hn => ⟨false, rfl, by simp [RightR]; intro h; exact absurd (h _ (List.getElem_mem hlt)) hn⟩
    have hyes : OkO l[i] → ∃ b, horariumref07_Right.l0 k l (wrap64 ((i : Int) + 1)) = some b ∧ (b = true ↔ RightR l) := by
      intro ho
      rw [wrap64_id (by omega) (by omega)]
      refine right_l0 l hl d (i + 1) k (by omega) (by omega) ?_
      intro o ho'
      rw [List.take_succ_eq_append_getElem hlt] at ho'
      rcases List.mem_append.1 ho' with h | h
      · exact hp o h
      · simp at h; rw [h]; exact ho
    simp only [horariumref07_Right.l0]
    rw [if_pos (by omega), if_pos (by omega), hrd]
    generalize l[i] = o at *
    (repeat' split) <;> first | (apply hno; unfold OkO; omega) | (apply hyes; unfold OkO; omega)
theorem right_f (l : List S56) (hl : (l.length : Int) ≤ 9223372036854775807) (k : Nat) (hk : l.length < k) : ∃ b, horariumref07_Right.f k l = some b ∧ (b = true ↔ RightR l) :=
  right_l0 l hl l.length 0 k (by omega) hk (by simp)
theorem mul_le {a b : Int} (h0 : 0 ≤ a) (h1 : a ≤ 1099511627776) (h2 : 0 ≤ b) (h3 : b ≤ 100) : 0 ≤ a * b ∧ a * b ≤ 109951162777600 :=
  ⟨Int.mul_nonneg h0 h2, by have := Int.mul_le_mul h1 h3 h2 (by omega); omega⟩
theorem oneS_of {o : S56} {n m : Int} (hs : stepS o n = (m, 1)) (h : 0 ≤ m ∧ m ≤ 1099511627776) : oneS o n = some m := by
  unfold oneS
  rw [hs]
  simp [inB_iff.2 h]
theorem oneS_out {o : S56} {n m : Int} (hs : stepS o n = (m, 1)) (h : ¬ (0 ≤ m ∧ m ≤ 1099511627776)) : oneS o n = none ∧ stopS o n = (0, 0, 0) := by
  unfold oneS stopS
  rw [hs]
  have : ¬ inB m = true := fun hh => h (inB_iff.1 hh)
  simp [this]
theorem oneS_no {o : S56} {n : Int} (hs : stepS o n = (0, 0)) : oneS o n = none ∧ stopS o n = (0, 0, 0) := by
  unfold oneS stopS
  rw [hs]
  simp
theorem one_over {o : S56} {n : Int} (ho : OkO o) (hn : 0 ≤ n ∧ n ≤ 1099511627776) (h : o.f0 = 3) : oneS o n = some (n / o.f1) := by
  have h1 := ho.2.2.1 (by omega)
  have hq : n / o.f1 ≤ n := Int.ediv_le_self _ (by omega)
  have hq0 : 0 ≤ n / o.f1 := Int.ediv_nonneg (by omega) (by omega)
  refine oneS_of ?_ ⟨by omega, by omega⟩
  unfold stepS
  rw [if_pos h, if_pos (by omega), tdiv_pos hn.1, wrap64_id (by omega) (by omega)]
theorem one_under {o : S56} {n : Int} (ho : OkO o) (hn : 0 ≤ n ∧ n ≤ 1099511627776) (h : o.f0 = 4) :
    (n * o.f1 ≤ 1099511627776 ∧ oneS o n = some (n * o.f1)) ∨ (1099511627776 < n * o.f1 ∧ oneS o n = none ∧ stopS o n = (0, 0, 0)) := by
  have h1 := ho.2.2.1 (by omega)
  have hm := mul_le hn.1 hn.2 (show 0 ≤ o.f1 by omega) h1.2
  have hc : (n = 0 ∨ o.f1 ≤ wrap64 (Int.tdiv 1099511627776 n)) ↔ n * o.f1 ≤ 1099511627776 := by
    rcases Int.lt_or_le 0 n with h0 | h0
    · rw [tdiv_pos (by omega)]
      have hq : (1099511627776 : Int) / n ≤ 1099511627776 := Int.ediv_le_self _ (by omega)
      have hq0 : 0 ≤ (1099511627776 : Int) / n := Int.ediv_nonneg (by omega) (by omega)
      rw [wrap64_id (by omega) (by omega), Int.le_ediv_iff_mul_le h0, Int.mul_comm o.f1 n]
      omega
    · have : n = 0 := by omega
      subst this
      simp
  by_cases hle : n * o.f1 ≤ 1099511627776
  · left
    refine ⟨hle, oneS_of ?_ ⟨hm.1, hle⟩⟩
    unfold stepS
    rw [if_neg (by omega), if_pos h, if_pos ⟨h1.1, hc.2 hle⟩, wrap64_id (by omega) (by omega)]
  · right
    refine ⟨by omega, oneS_no ?_⟩
    unfold stepS
    rw [if_neg (by omega), if_pos h, if_neg (fun hh => hle (hc.1 hh.2))]
theorem one_shift {o : S56} {n : Int} (hn : 0 ≤ n ∧ n ≤ 1099511627776) (h : o.f0 = 5) : oneS o n = some n := by
  refine oneS_of ?_ hn
  unfold stepS
  rw [if_neg (by omega), if_neg (by omega), if_pos h]
theorem one_tail {o : S56} {n : Int} (hn : 0 ≤ n ∧ n ≤ 1099511627776) (h : o.f0 = 7) :
    (n + 1 ≤ 1099511627776 ∧ oneS o n = some (n + 1)) ∨ (1099511627776 < n + 1 ∧ oneS o n = none ∧ stopS o n = (0, 0, 0)) := by
  have hs : stepS o n = (n + 1, 1) := by
    unfold stepS
    rw [if_neg (by omega), if_neg (by omega), if_neg (by omega), if_pos h, wrap64_id (by omega) (by omega)]
  by_cases hle : n + 1 ≤ 1099511627776
  · exact .inl ⟨hle, oneS_of hs ⟨by omega, hle⟩⟩
  · exact .inr ⟨by omega, oneS_out hs (by omega)⟩
theorem one_fby {o : S56} {n : Int} (hn : 0 ≤ n ∧ n ≤ 1099511627776) (h : o.f0 = 6 ∨ o.f0 = 8) :
    (n = 0 ∧ oneS o n = none ∧ stopS o n = (0, o.f1, 2)) ∨ (n ≠ 0 ∧ oneS o n = some (n - 1)) := by
  by_cases h0 : n = 0
  · left
    have hs : stepS o n = (o.f1, 2) := by
      unfold stepS
      rw [if_neg (by omega), if_neg (by omega), if_neg (by omega), if_neg (by omega), if_pos h, if_pos h0]
    refine ⟨h0, ?_, ?_⟩
    · unfold oneS; rw [hs]; simp
    · unfold stopS; rw [hs]; simp
  · right
    refine ⟨h0, oneS_of ?_ (by omega)⟩
    unfold stepS
    rw [if_neg (by omega), if_neg (by omega), if_neg (by omega), if_neg (by omega), if_pos h, if_neg h0, wrap64_id (by omega) (by omega)]

theorem one_in {o : S56} {n m : Int} (h : oneS o n = some m) : 0 ≤ m ∧ m ≤ 1099511627776 := by
  unfold oneS at h
  split at h
  · cases h
  · split at h
    · cases h
    · split at h
      · rename_i hb
        have := Option.some.inj h
        rw [← this]
        exact inB_iff.1 hb
      · cases h
theorem refback_l0 (l : List S56) (hr : ∀ o ∈ l, OkO o) (hl : (l.length : Int) ≤ 9223372036854775807) : ∀ (i k : Nat) (n : Int), i ≤ l.length → 2 * i + 1 ≤ k → 0 ≤ n ∧ n ≤ 1099511627776 → horariumref07_Back.l0 k l n ((i : Int) - 1) = some (goS (l.take i).reverse n)
  | 0, k, n, hi, hk, hn => by
    obtain ⟨k, rfl⟩ : ∃ m, k = m + 1 := ⟨k - 1, by omega⟩
    simp only [horariumref07_Back.l0]
    rw [if_neg (by omega)]
    simp [goS]
  | i + 1, k, n, hi, hk, hn => by
    obtain ⟨k, rfl⟩ : ∃ m, k = m + 1 := ⟨k - 1, by omega⟩
    have hlt : i < l.length := by omega
    have e : ((i + 1 : Nat) : Int) - 1 = (i : Int) := by omega
    have hrd : rd_T56 l (i : Int) = l[i] := by simp [rd_T56, hlt]
    have ho := hr l[i] (List.getElem_mem hlt)
    have hw : wrap64 ((i : Int) - 1) = (i : Int) - 1 := wrap64_id (by omega) (by omega)
    rw [e]
    simp only [horariumref07_Back.l0]
    rw [if_pos (by omega), if_pos (by omega), if_pos (by omega), hrd, List.take_succ_eq_append_getElem hlt, List.reverse_append, hw]
    simp only [List.reverse_cons, List.reverse_nil, List.nil_append, List.singleton_append, goS]
    generalize l[i] = o at *
    by_cases h3 : o.f0 = 3
    · have h1 := ho.2.2.1 (by omega)
      have hq : n / o.f1 ≤ n := Int.ediv_le_self _ (by omega)
      have hq0 : 0 ≤ n / o.f1 := Int.ediv_nonneg (by omega) (by omega)
      rw [if_pos h3, if_neg (by omega), tdiv_pos hn.1, wrap64_id (n := n / o.f1) (by omega) (by omega), if_neg (by omega), one_over ho hn h3]
      exact refback_l0 l hr hl i k _ (by omega) (by omega) ⟨by omega, by omega⟩
    · rw [if_neg h3]
      by_cases h4 : o.f0 = 4
      · have h1 := ho.2.2.1 (by omega)
        have hm := mul_le hn.1 hn.2 (show 0 ≤ o.f1 by omega) h1.2
        rw [if_pos h4, wrap64_id (n := n * o.f1) (by omega) (by omega)]
        rcases one_under ho hn h4 with ⟨a, b⟩ | ⟨a, b, c⟩
        · rw [if_neg (by omega), b]
          exact refback_l0 l hr hl i k _ (by omega) (by omega) ⟨by omega, by omega⟩
        · rw [if_pos (by omega), b, c]
      · rw [if_neg h4]
        by_cases h7 : o.f0 = 7
        · rw [if_pos h7, wrap64_id (n := n + 1) (by omega) (by omega)]
          rcases one_tail hn h7 with ⟨a, b⟩ | ⟨a, b, c⟩
          · rw [if_neg (by omega), b]
            exact refback_l0 l hr hl i k _ (by omega) (by omega) ⟨by omega, by omega⟩
          · rw [if_pos (by omega), b, c]
        · rw [if_neg h7]
          obtain ⟨k, rfl⟩ : ∃ m, k = m + 1 := ⟨k - 1, by omega⟩
          have hj : ∀ b : Bool, (b = true ↔ o.f0 = 6 ∨ o.f0 = 8) → horariumref07_Back.j1 (k + 1) l n (i : Int) b o.f0 o.f1 o.f2 = some (match oneS o n with | some m => goS (l.take i).reverse m | none => stopS o n) := by
            intro b hb
            simp only [horariumref07_Back.j1, hw]
            by_cases h68 : o.f0 = 6 ∨ o.f0 = 8
            · rw [if_pos (hb.2 h68)]
              rcases one_fby hn h68 with ⟨a, b, c⟩ | ⟨a, b⟩
              · rw [if_pos a, b, c]
              · rw [if_neg a, b, wrap64_id (n := n - 1) (by omega) (by omega), if_neg (by omega)]
                exact refback_l0 l hr hl i k _ (by omega) (by omega) ⟨by omega, by omega⟩
            · rw [if_neg (fun hh => h68 (hb.1 hh)), if_neg (by omega), one_shift hn (by have := ho.1; have := ho.2.1; omega)]
              exact refback_l0 l hr hl i k _ (by omega) (by omega) hn
          by_cases h6 : o.f0 = 6
          · rw [if_pos h6]
            exact hj _ (by simp [h6])
          · rw [if_neg h6]
            exact hj _ (by simp [h6])
theorem refback_f (l : List S56) (hr : ∀ o ∈ l, OkO o) (hl : (l.length : Int) ≤ 9223372036854775807) (k : Nat) (n : Int) (hk : 2 * l.length + 1 ≤ k) (hn : 0 ≤ n ∧ n ≤ 1099511627776) : horariumref07_Back.f k l n = some (goS l.reverse n) := by
  unfold horariumref07_Back.f
  rw [wrap64_id (by omega) (by omega), refback_l0 l hr hl l.length k n (Nat.le_refl _) hk hn, List.take_of_length_le (Nat.le_refl _)]

/-- What may be told. -/
def Told (t : Int × Int × Int) : Prop := (∃ i, t = (i, 0, 1) ∧ 0 ≤ i ∧ i ≤ 1099511627776) ∨ (∃ v, t = (0, v, 2)) ∨ t = (0, 0, 0)
theorem told : ∀ (l : List S56) (n : Int), 0 ≤ n ∧ n ≤ 1099511627776 → Told (goS l n)
  | [], n, hn => .inl ⟨n, rfl, hn.1, hn.2⟩
  | o :: l, n, hn => by
    simp only [goS]
    cases h : oneS o n with
    | some m => exact told l m (one_in h)
    | none =>
      simp only [stopS]
      split
      · exact .inr (.inl ⟨_, rfl⟩)
      · exact .inr (.inr rfl)

theorem IndexBack (l : List S56) (hl : (l.length : Int) ≤ 9223372036854775807) (n : Int) : ∃ k, horariumlaw07_IndexBack.f k l n = some true := by
  refine ⟨2 * l.length + 100, ?_⟩
  unfold horariumlaw07_IndexBack.f
  rw [awake_f]
  simp only [Option.bind_some, if_true]
  simp only [horariumlaw07_IndexBack.j0]
  by_cases h30 : (l.length : Int) > 30
  · rw [if_pos (by simpa using h30), awake_f]
    rfl
  · rw [if_neg (by simpa using h30)]
    simp only [index_Back.f, Option.bind_some]
    have hj : ∀ b : Bool, (b = true ↔ ¬ (0 ≤ n ∧ n ≤ 1099511627776)) → horariumlaw07_IndexBack.j1 (2 * l.length + 99) l n (backS l n).1 (backS l n).2.1 (backS l n).2.2 b = some true := by
      intro b hb
      simp only [horariumlaw07_IndexBack.j1]
      by_cases hn : 0 ≤ n ∧ n ≤ 1099511627776
      · rw [if_neg (fun hh => hb.1 hh hn)]
        have hbk : backS l n = goS l.reverse n := by unfold backS; rw [if_pos (inB_iff.2 hn)]
        rw [hbk]
        obtain ⟨b', h1, h2⟩ := right_f l hl (2 * l.length + 98) (by omega)
        rw [h1]
        simp only [Option.bind_some]
        by_cases hr : RightR l
        · rw [if_pos (h2.2 hr), refback_f l hr.1 hl _ n (by omega) hn]
          simp
        · rw [if_neg (fun hh => hr (h2.1 hh))]
          rcases told l.reverse n hn with ⟨i, e, hi0, hi1⟩ | ⟨v, e⟩ | e
          · rw [e]; simp [hi0, hi1]
          · rw [e]; simp
          · rw [e]; simp
      · rw [if_pos (hb.2 hn)]
        have hbk : backS l n = (0, 0, 0) := by unfold backS; rw [if_neg (fun hh => hn (inB_iff.1 hh))]
        rw [hbk]
        simp
    by_cases h0 : n < 0
    · rw [if_pos h0]
      exact hj true (by simp; omega)
    · rw [if_neg h0]
      exact hj _ (by simp; omega)

theorem op56 (n : Nat) : OpN Try.prog 56 k56 (fun _ => True) n := by
  cases n with
  | zero => exact op_zero _ _ _ _
  | succ n => exact (op_struct (f := fun x : S56 => (x.f0, x.f1, x.f2)) (g := fun y => ⟨y.1, y.2.1, y.2.2⟩) (fun _ => rfl) Try.underlying56 (fs_cons (o := 0) (o' := 1) rfl (by kernel_rfl) (op_int Try.underlying3 n) (fs_cons (o := 1) (o' := 2) rfl (by kernel_rfl) (op_int Try.underlying2 n) (fs_last rfl (by kernel_rfl) (op_int Try.underlying2 n))))).imp fun _ _ => trivial
theorem walk (w : World) (A : Option Addr) (c : Nat) (l : List S56) (hc : l.length ≤ c) (hC : Kd.C k56 w A l.length l) (hm : l.length ≤ maxLen) (_ : ∀ x ∈ l, True) (n : Int) (_ : (Lit.int .i64 n).wf = true) :
    Calls Try.prog 10 #[.slice A l.length c, .int .i64 n] w fun e w' => e = .returned (.bool true) ∧ Below w.heap.size w w' := by
  unfold maxLen at hm
  obtain ⟨k, hk⟩ := IndexBack l (by omega) n
  exact horariumlaw07_IndexBack.calls k A c l n true w hC hc hk
end Go.Proofs.Ytkiaglpkijhbmaa.Pure
