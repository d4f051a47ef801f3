/- Operators behind others read where these read what they tell (IndexJoins): for all two slices of operators, and all 16-bit numbers; no condition. -/
import Derived.Test.YtkiaglpkijhbmaaOpenKd
import Derived.Test.YtkiaglpkijhbmaaRIndexJoinsx1
namespace Go.Proofs.Ytkiaglpkijhbmaa.Pure
open Go.RowKit Go.Proofs.Ytkiaglpkijhbmaa.PIndexJoins Go.Proofs.YtkiaglpkijhbmaaW.PrintWords Go.Proofs.YtkiaglpkijhbmaaW.PrintMore Go.Proofs.YtkiaglpkijhbmaaW.PrintLast Go.Proofs.Ytkiaglpkijhbmaa.Math Go.Proofs.Ytkiaglpkijhbmaa.OpenKd

theorem inB_iff {n : Int} : inB n = true ↔ 0 ≤ n ∧ n ≤ 1099511627776 := by simp [inB]
theorem awake_f : horariumlaw07_awake.f = some true := by decide +kernel
/-- Operators that may be. -/
def OkO (o : S56) : Prop := 3 ≤ o.f0 ∧ o.f0 ≤ 8 ∧ (o.f0 < 5 → 1 ≤ o.f1 ∧ o.f1 ≤ 100) ∧ (o.f0 = 5 → 0 ≤ o.f1 ∧ o.f1 ≤ 100 ∧ 1 ≤ o.f2 ∧ o.f2 ≤ 100)
def RightR (l : List S56) : Prop := (∀ o ∈ l, OkO o) ∧ l.length ≤ 20
theorem right_l0 (l : List S56) (hl : (l.length : Int) ≤ 9223372036854775807) : ∀ (d i k : Nat), i + d = l.length → d < k → (∀ o ∈ l.take i, OkO o) → ∃ b, horariumref07_Right.l0 k l i = some b ∧ (b = true ↔ RightR l)
  | 0, i, k, hi, hk, hp => by
    obtain ⟨k, rfl⟩ : ∃ m, k = m + 1 := ⟨k - 1, by omega⟩
    simp only [horariumref07_Right.l0]
    rw [if_neg (by omega)]
    rw [List.take_of_length_le (by omega)] at hp
    exact ⟨_, rfl, by simp [RightR]; exact ⟨fun h => ⟨hp, by omega⟩, fun h => by omega⟩⟩
  | d + 1, i, k, hi, hk, hp => by
    obtain ⟨k, rfl⟩ : ∃ m, k = m + 1 := ⟨k - 1, by omega⟩
    have hlt : i < l.length := by omega
    have hrd : rd_T56 l (i : Int) = l[i] := by simp [rd_T56, hlt]
    have hno : ¬ OkO l[i] → ∃ b, some false = some b ∧ (b = true ↔ RightR l) := fun hn => ⟨false, rfl, by simp [RightR]; intro h; exact absurd (h _ (List.getElem_mem hlt)) hn⟩
    have hyes : OkO l[i] → ∃ b, horariumref07_Right.l0 k l (wrap64 ((i : Int) + 1)) = some b ∧ (b = true ↔ RightR l) := by
      intro ho
      rw [wrap64_id (by omega) (by omega)]
      refine right_l0 l hl d (i + 1) k (by omega) (by omega) ?_
      intro o ho'
      rw [List.take_succ_eq_append_getElem hlt] at ho'
      rcases List.mem_append.1 ho' with h | h
      · exact hp o h
      · simp at h; rw [h]; exact ho
    simp only [horariumref07_Right.l0]
    rw [if_pos (by omega), if_pos (by omega), hrd]
    generalize l[i] = o at *
    (repeat' split) <;> first | (apply hno; unfold OkO; omega) | (apply hyes; unfold OkO; omega)
theorem right_f (l : List S56) (hl : (l.length : Int) ≤ 9223372036854775807) (k : Nat) (hk : l.length < k) : ∃ b, horariumref07_Right.f k l = some b ∧ (b = true ↔ RightR l) :=
  right_l0 l hl l.length 0 k (by omega) hk (by simp)
theorem mul_le {a b : Int} (h0 : 0 ≤ a) (h1 : a ≤ 1099511627776) (h2 : 0 ≤ b) (h3 : b ≤ 100) : 0 ≤ a * b ∧ a * b ≤ 109951162777600 :=
  ⟨Int.mul_nonneg h0 h2, by have := Int.mul_le_mul h1 h3 h2 (by omega); omega⟩

theorem one_in {o : S56} {n m : Int} (h : oneS o n = some m) : 0 ≤ m ∧ m ≤ 1099511627776 := by
  unfold oneS at h
  split at h
  · cases h
  · split at h
    · cases h
    · split at h
      · rename_i hb
        have := Option.some.inj h
        rw [← this]
        exact inB_iff.1 hb
      · cases h
theorem reach_in : ∀ (l : List S56) (n m : Int), inB n = true → reachS l n = some m → inB m = true
  | [], n, m, hn, h => by simp only [reachS, Option.some.injEq] at h; rw [← h]; exact hn
  | o :: l, n, m, _, h => by
    simp only [reachS] at h
    obtain ⟨x, hx, h⟩ := Option.bind_eq_some_iff.1 h
    exact reach_in l x m (inB_iff.2 (one_in hx)) h
theorem goS_none : ∀ (l r : List S56) (n : Int), reachS l n = none → goS (l ++ r) n = goS l n ∧ (goS l n).2.2 ≠ 1 ∧ (goS l n).1 = 0
  | [], r, n, h => by simp [reachS] at h
  | o :: l, r, n, h => by
    simp only [reachS] at h
    simp only [List.cons_append, goS]
    cases ho : oneS o n with
    | some m =>
      rw [ho] at h
      exact goS_none l r m h
    | none =>
      refine ⟨rfl, ?_⟩
      simp only [stopS]
      split <;> simp

theorem IndexJoins (a b : List S56) (hla : (a.length : Int) ≤ 9223372036854775807) (hlb : (b.length : Int) ≤ 9223372036854775807) (n : Int) (h0 : 0 ≤ n) (h1 : n ≤ 65535) : ∃ k, horariumlaw07_IndexJoins.f k a b n = some true := by
  refine ⟨a.length + b.length + 100, ?_⟩
  have hno : horariumlaw07_IndexJoins.j0 (a.length + b.length + 100) a b n true = some true := by
    simp only [horariumlaw07_IndexJoins.j0, if_true]
    rw [awake_f]
    rfl
  unfold horariumlaw07_IndexJoins.f
  rw [awake_f]
  simp only [Option.bind_some, if_true]
  obtain ⟨ra, ea, ha⟩ := right_f a hla (a.length + b.length + 100) (by omega)
  obtain ⟨rb, eb, hb⟩ := right_f b hlb (a.length + b.length + 100) (by omega)
  rw [ea, eb]
  simp only [Option.bind_some]
  by_cases hra : ra = true
  · rw [if_pos hra]
    by_cases hrb : rb = true
    · have ha20 := (ha.1 hra).2
      have hb20 := (hb.1 hrb).2
      have hin : inB n = true := inB_iff.2 ⟨h0, by omega⟩
      subst hrb
      simp only [horariumlaw07_IndexJoins.j0, Bool.not_true, Bool.false_eq_true, if_false, Option.bind_some, List.length_nil, List.nil_append, index_Back.f]
      rw [if_pos (by omega), if_pos (by omega), wrap64_id (by omega) (by omega)]
      have hbk : backS b n = goS b.reverse n := by unfold backS; rw [if_pos hin]
      have hab : backS (a ++ b) n = goS (b.reverse ++ a.reverse) n := by unfold backS; rw [if_pos hin, List.reverse_append]
      rw [hbk, hab]
      cases hr : reachS b.reverse n with
      | none =>
        obtain ⟨e1, e2, e3⟩ := goS_none b.reverse a.reverse n hr
        rw [e1, if_neg e2, if_pos rfl, if_pos rfl, e3]
        rfl
      | some m =>
        have e1 := goS_reach b.reverse a.reverse n m hr
        have e2 := goS_reach b.reverse [] n m hr
        rw [List.append_nil] at e2
        have hm := reach_in b.reverse n m hin hr
        have ham : backS a m = goS a.reverse m := by unfold backS; rw [if_pos hm]
        rw [e1, e2]
        simp [goS, ham]
    · rw [show (!rb) = true by simpa using hrb]
      exact hno
  · rw [if_neg hra]
    exact hno

theorem op56 (n : Nat) : OpN Try.prog 56 k56 (fun _ => True) n := by
  cases n with
  | zero => exact op_zero _ _ _ _
  | succ n => exact (op_struct (f := fun x : S56 => (x.f0, x.f1, x.f2)) (g := fun y => ⟨y.1, y.2.1, y.2.2⟩) (fun _ => rfl) Try.underlying56 (fs_cons (o := 0) (o' := 1) rfl (by kernel_rfl) (op_int Try.underlying3 n) (fs_cons (o := 1) (o' := 2) rfl (by kernel_rfl) (op_int Try.underlying2 n) (fs_last rfl (by kernel_rfl) (op_int Try.underlying2 n))))).imp fun _ _ => trivial
theorem walk (w : World) (A : Option Addr) (c : Nat) (l : List S56) (hc : l.length ≤ c) (hC : Kd.C k56 w A l.length l) (hm : l.length ≤ maxLen) (_ : ∀ x ∈ l, True)
    (A' : Option Addr) (c' : Nat) (l' : List S56) (hc' : l'.length ≤ c') (hC' : Kd.C k56 w A' l'.length l') (hm' : l'.length ≤ maxLen) (_ : ∀ x ∈ l', True) (n : Int) (hn : (Lit.int .u16 n).wf = true) :
    Calls Try.prog 8 #[.slice A l.length c, .slice A' l'.length c', .int .u16 n] w fun e w' => e = .returned (.bool true) ∧ Below w.heap.size w w' := by
  unfold maxLen at hm hm'
  have hb := bounds_u16 hn
  obtain ⟨k, hk⟩ := IndexJoins l l' (by omega) (by omega) n hb.1 hb.2
  exact horariumlaw07_IndexJoins.calls k A c l A' c' l' n true w hC hc hC' hc' hk
end Go.Proofs.Ytkiaglpkijhbmaa.Pure
