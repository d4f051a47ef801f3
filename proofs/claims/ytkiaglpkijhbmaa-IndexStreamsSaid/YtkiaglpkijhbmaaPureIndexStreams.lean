/- Of all operators that may be the values that are read are those of the streams, one by one (IndexStreams): for all slices of operators; no condition. -/
import Derived.Test.YtkiaglpkijhbmaaOpenKd
import Derived.Test.YtkiaglpkijhbmaaRIndexStreamsx1
namespace Go.Proofs.Ytkiaglpkijhbmaa.Pure
open Go.RowKit Go.Proofs.Ytkiaglpkijhbmaa.PIndexStreams Go.Proofs.YtkiaglpkijhbmaaW.PrintWords Go.Proofs.YtkiaglpkijhbmaaW.PrintMore Go.Proofs.YtkiaglpkijhbmaaW.PrintLast Go.Proofs.Ytkiaglpkijhbmaa.Math Go.Proofs.Ytkiaglpkijhbmaa.OpenKd

theorem inB_iff {n : Int} : inB n = true ↔ 0 ≤ n ∧ n ≤ 1099511627776 := by simp [inB]
theorem awake_f : horariumlaw07_awake.f = some true := by decide +kernel
/-- Operators that may be. -/
def OkO (o : S56) : Prop := 3 ≤ o.f0 ∧ o.f0 ≤ 8 ∧ (o.f0 < 5 → 1 ≤ o.f1 ∧ o.f1 ≤ 100) ∧ (o.f0 = 5 → 0 ≤ o.f1 ∧ o.f1 ≤ 100 ∧ 1 ≤ o.f2 ∧ o.f2 ≤ 100)
def RightR (l : List S56) : Prop := (∀ o ∈ l, OkO o) ∧ l.length ≤ 20
theorem right_l0 (l : List S56) (hl : (l.length : Int) ≤ 9223372036854775807) : ∀ (d i k : Nat), i + d = l.length → d < k → (∀ o ∈ l.take i, OkO o) → ∃ b, horariumref07_Right.l0 k l i = some b ∧ (b = true ↔ RightR l)
  | 0, i, k, hi, hk, hp => by
    obtain ⟨k, rfl⟩ : ∃ m, k = m + 1 := ⟨k - 1, by omega⟩
    simp only [horariumref07_Right.l0]
    rw [if_neg (by omega)]
    rw [List.take_of_length_le (by omega)] at hp
    exact ⟨_, rfl, by simp [RightR]; exact ⟨fun h => ⟨hp, by omega⟩, fun h => by omega⟩⟩
  | d + 1, i, k, hi, hk, hp => by
    obtain ⟨k, rfl⟩ : ∃ m, k = m + 1 := ⟨k - 1, by omega⟩
    have hlt : i < l.length := by omega
    have hrd : rd_T56 l (i : Int) = l[i] := by simp [rd_T56, hlt]
    have hno : ¬ OkO l[i] → ∃ b, some false = some b ∧ (b = true ↔ RightR l) := fun hn => ⟨false, rfl, by simp [RightR]; intro h; exact absurd (h _ (List.getElem_mem hlt)) hn⟩
    have hyes : OkO l[i] → ∃ b, horariumref07_Right.l0 k l (wrap64 ((i : Int) + 1)) = some b ∧ (b = true ↔ RightR l) := by
      intro ho
      rw [wrap64_id (by omega) (by omega)]
      refine right_l0 l hl d (i + 1) k (by omega) (by omega) ?_
      intro o ho'
      rw [List.take_succ_eq_append_getElem hlt] at ho'
      rcases List.mem_append.1 ho' with h | h
      · exact hp o h
      · simp at h; rw [h]; exact ho
    simp only [horariumref07_Right.l0]
    rw [if_pos (by omega), if_pos (by omega), hrd]
    generalize l[i] = o at *
    (repeat' split) <;> first | (apply hno; unfold OkO; omega) | (apply hyes; unfold OkO; omega)
theorem right_f (l : List S56) (hl : (l.length : Int) ≤ 9223372036854775807) (k : Nat) (hk : l.length < k) : ∃ b, horariumref07_Right.f k l = some b ∧ (b = true ↔ RightR l) :=
  right_l0 l hl l.length 0 k (by omega) hk (by simp)
theorem mul_le {a b : Int} (h0 : 0 ≤ a) (h1 : a ≤ 1099511627776) (h2 : 0 ≤ b) (h3 : b ≤ 100) : 0 ≤ a * b ∧ a * b ≤ 109951162777600 :=
  ⟨Int.mul_nonneg h0 h2, by have := Int.mul_le_mul h1 h3 h2 (by omega); omega⟩

theorem oneS_of {o : S56} {n m : Int} (hs : stepS o n = (m, 1)) (h : 0 ≤ m ∧ m ≤ 1099511627776) : oneS o n = some m := by
  unfold oneS
  rw [hs]
  simp [inB_iff.2 h]
theorem oneS_out {o : S56} {n m : Int} (hs : stepS o n = (m, 1)) (h : ¬ (0 ≤ m ∧ m ≤ 1099511627776)) : oneS o n = none ∧ stopS o n = (0, 0, 0) := by
  unfold oneS stopS
  rw [hs]
  have : ¬ inB m = true := fun hh => h (inB_iff.1 hh)
  simp [this]
theorem oneS_no {o : S56} {n : Int} (hs : stepS o n = (0, 0)) : oneS o n = none ∧ stopS o n = (0, 0, 0) := by
  unfold oneS stopS
  rw [hs]
  simp
theorem one_over {o : S56} {n : Int} (ho : OkO o) (hn : 0 ≤ n ∧ n ≤ 1099511627776) (h : o.f0 = 3) : oneS o n = some (n / o.f1) := by
  have h1 := ho.2.2.1 (by omega)
  have hq : n / o.f1 ≤ n := Int.ediv_le_self _ (by omega)
  have hq0 : 0 ≤ n / o.f1 := Int.ediv_nonneg (by omega) (by omega)
  refine oneS_of ?_ ⟨by omega, by omega⟩
  unfold stepS
  rw [if_pos h, if_pos (by omega), tdiv_pos hn.1, wrap64_id (by omega) (by omega)]
theorem one_under {o : S56} {n : Int} (ho : OkO o) (hn : 0 ≤ n ∧ n ≤ 1099511627776) (h : o.f0 = 4) :
    (n * o.f1 ≤ 1099511627776 ∧ oneS o n = some (n * o.f1)) ∨ (1099511627776 < n * o.f1 ∧ oneS o n = none ∧ stopS o n = (0, 0, 0)) := by
  have h1 := ho.2.2.1 (by omega)
  have hm := mul_le hn.1 hn.2 (show 0 ≤ o.f1 by omega) h1.2
  have hc : (n = 0 ∨ o.f1 ≤ wrap64 (Int.tdiv 1099511627776 n)) ↔ n * o.f1 ≤ 1099511627776 := by
    rcases Int.lt_or_le 0 n with h0 | h0
    · rw [tdiv_pos (by omega)]
      have hq : (1099511627776 : Int) / n ≤ 1099511627776 := Int.ediv_le_self _ (by omega)
      have hq0 : 0 ≤ (1099511627776 : Int) / n := Int.ediv_nonneg (by omega) (by omega)
      rw [wrap64_id (by omega) (by omega), Int.le_ediv_iff_mul_le h0, Int.mul_comm o.f1 n]
      omega
    · have : n = 0 := by omega
      subst this
      simp
  by_cases hle : n * o.f1 ≤ 1099511627776
  · left
    refine ⟨hle, oneS_of ?_ ⟨hm.1, hle⟩⟩
    unfold stepS
    rw [if_neg (by omega), if_pos h, if_pos ⟨h1.1, hc.2 hle⟩, wrap64_id (by omega) (by omega)]
  · right
    refine ⟨by omega, oneS_no ?_⟩
    unfold stepS
    rw [if_neg (by omega), if_pos h, if_neg (fun hh => hle (hc.1 hh.2))]
theorem one_shift {o : S56} {n : Int} (hn : 0 ≤ n ∧ n ≤ 1099511627776) (h : o.f0 = 5) : oneS o n = some n := by
  refine oneS_of ?_ hn
  unfold stepS
  rw [if_neg (by omega), if_neg (by omega), if_pos h]
theorem one_tail {o : S56} {n : Int} (hn : 0 ≤ n ∧ n ≤ 1099511627776) (h : o.f0 = 7) :
    (n + 1 ≤ 1099511627776 ∧ oneS o n = some (n + 1)) ∨ (1099511627776 < n + 1 ∧ oneS o n = none ∧ stopS o n = (0, 0, 0)) := by
  have hs : stepS o n = (n + 1, 1) := by
    unfold stepS
    rw [if_neg (by omega), if_neg (by omega), if_neg (by omega), if_pos h, wrap64_id (by omega) (by omega)]
  by_cases hle : n + 1 ≤ 1099511627776
  · exact .inl ⟨hle, oneS_of hs ⟨by omega, hle⟩⟩
  · exact .inr ⟨by omega, oneS_out hs (by omega)⟩
theorem one_fby {o : S56} {n : Int} (hn : 0 ≤ n ∧ n ≤ 1099511627776) (h : o.f0 = 6 ∨ o.f0 = 8) :
    (n = 0 ∧ oneS o n = none ∧ stopS o n = (0, o.f1, 2)) ∨ (n ≠ 0 ∧ oneS o n = some (n - 1)) := by
  by_cases h0 : n = 0
  · left
    have hs : stepS o n = (o.f1, 2) := by
      unfold stepS
      rw [if_neg (by omega), if_neg (by omega), if_neg (by omega), if_neg (by omega), if_pos h, if_pos h0]
    refine ⟨h0, ?_, ?_⟩
    · unfold oneS; rw [hs]; simp
    · unfold stopS; rw [hs]; simp
  · right
    refine ⟨h0, oneS_of ?_ (by omega)⟩
    unfold stepS
    rw [if_neg (by omega), if_neg (by omega), if_neg (by omega), if_neg (by omega), if_pos h, if_neg h0, wrap64_id (by omega) (by omega)]

theorem one_in {o : S56} {n m : Int} (h : oneS o n = some m) : 0 ≤ m ∧ m ≤ 1099511627776 := by
  unfold oneS at h
  split at h
  · cases h
  · split at h
    · cases h
    · split at h
      · rename_i hb
        have := Option.some.inj h
        rw [← this]
        exact inB_iff.1 hb
      · cases h

theorem right_ok (l : List S56) (h : RightR l) : okB l = true := by
  unfold okB
  rw [Bool.and_eq_true, List.all_eq_true]
  refine ⟨by simpa using h.2, fun o ho => ?_⟩
  obtain ⟨a, b, c, d⟩ := h.1 o ho
  by_cases hk : o.f0 = 3 ∨ o.f0 = 4
  · obtain ⟨e, f⟩ := c (by omega)
    simp [e, f]
  · have h3 : (o.f0 == 3) = false := beq_eq_false_iff_ne.mpr (fun e => hk (.inl e))
    have h4 : (o.f0 == 4) = false := beq_eq_false_iff_ne.mpr (fun e => hk (.inr e))
    simp [h3, h4]
theorem rd_eq {xs ys : List S44} {i j : Nat} (h : xs[i]? = ys[j]?) : rd_T44 xs (i : Int) = rd_T44 ys (j : Int) := by
  unfold rd_T44
  rw [List.getD_eq_getElem?_getD, List.getD_eq_getElem?_getD, Int.toNat_natCast, Int.toNat_natCast, h]
theorem rep_get (N : Nat) (hN : 1 ≤ N) : ∀ (xs : List S44) (n : Nat), (xs.flatMap fun x => List.replicate N x)[n]? = xs[n / N]?
  | [], n => by simp
  | x :: t, n => by
    rw [List.flatMap_cons]
    by_cases h : n < N
    · rw [List.getElem?_append_left (by simpa using h), Nat.div_eq_of_lt h]
      simp [h]
    · rw [List.getElem?_append_right (by simp; omega), List.length_replicate, rep_get N hN t (n - N)]
      have : n / N = (n - N) / N + 1 := by
        conv => lhs; rw [show n = (n - N) + N by omega]
        exact Nat.add_div_right _ (by omega)
      rw [this]
      rfl
theorem over_get (m : Int) (hm : 1 ≤ m) (xs : List S44) (n : Nat) (h : n < (overS m xs).length) : rd_T44 (overS m xs) (n : Int) = rd_T44 xs ((n : Int) / m) ∧ (n : Int) / m < xs.length := by
  obtain ⟨N, rfl⟩ := Int.eq_ofNat_of_zero_le (show 0 ≤ m by omega)
  have hN : 1 ≤ N := by omega
  unfold overS at *
  rw [Int.toNat_natCast] at *
  have hl : n < 400 := by simp at h; omega
  have hg : ((xs.flatMap fun x => List.replicate N x).take 400)[n]? = xs[n / N]? := by
    rw [List.getElem?_take_of_lt hl, rep_get N hN]
  have hlt : n / N < xs.length := by
    rw [List.getElem?_eq_getElem h] at hg
    exact (List.getElem?_eq_some_iff.1 hg.symm).1
  constructor
  · rw [show (n : Int) / (N : Int) = ((n / N : Nat) : Int) from rfl]
    exact rd_eq hg
  · rw [show (n : Int) / (N : Int) = ((n / N : Nat) : Int) from rfl]
    exact_mod_cast hlt
theorem under_get (m : Int) (hm : 1 ≤ m) (xs : List S44) (n : Nat) (h : n < (underS m xs).length) : rd_T44 (underS m xs) (n : Int) = rd_T44 xs ((n : Int) * m) ∧ (n : Int) * m < xs.length := by
  obtain ⟨N, rfl⟩ := Int.eq_ofNat_of_zero_le (show 0 ≤ m by omega)
  have hN : 1 ≤ N := by omega
  unfold underS at *
  rw [Int.toNat_natCast] at *
  simp only [List.length_map, List.length_range] at h
  constructor
  · unfold rd_T44
    simp [h]
  · have h1 : (n + 1) * N ≤ xs.length + (N - 1) := (Nat.le_div_iff_mul_le (by omega)).1 h
    rw [Nat.add_mul] at h1
    have : n * N < xs.length := by omega
    exact_mod_cast this
theorem tail_get (xs : List S44) (n : Nat) (h : n < (xs.drop 1).length) : rd_T44 (xs.drop 1) (n : Int) = rd_T44 xs ((n : Int) + 1) ∧ (n : Int) + 1 < xs.length := by
  rw [List.length_drop] at h
  refine ⟨?_, by omega⟩
  rw [show (n : Int) + 1 = ((n + 1 : Nat) : Int) by omega]
  refine rd_eq ?_
  rw [List.getElem?_drop]
  congr 1
  omega

/-- What is told is the stream's. -/
theorem same (l : List S56) (hr : RightR l) : ∀ (i : Nat), i ≤ l.length → ∀ n : Nat, n < (streamS (l.take i)).length →
    goS (l.take i).reverse n = ((rd_T44 (streamS (l.take i)) n).f0, (rd_T44 (streamS (l.take i)) n).f1, (rd_T44 (streamS (l.take i)) n).f2)
  | 0, _, n, h => by
    have h0 : streamS (l.take 0) = itemsS 200 := by simp [streamS]
    rw [h0] at h ⊢
    rw [items_len] at h
    have : rd_T44 (itemsS 200) (n : Int) = ⟨(n : Int), 0, 1⟩ := by simp [rd_T44, itemsS, h]
    rw [this]
    simp [goS]
  | i + 1, hi, n, h => by
    have ih := same l hr i (by omega)
    have hok := right_ok l hr
    have hst := step_take l i (by omega)
    have hlen := stream_len l hok (i + 1) hi
    have hxs := stream_len l hok i (by omega)
    have h20 := hr.2
    have hlt : i < l.length := by omega
    have hrd : rd_T56 l i = l[i] := by simp [rd_T56, hlt]
    have hO : OkO (rd_T56 l i) := by rw [hrd]; exact hr.1 _ (List.getElem_mem hlt)
    have hrev : (l.take (i + 1)).reverse = rd_T56 l i :: (l.take i).reverse := by rw [List.take_succ_eq_append_getElem hlt, List.reverse_append, hrd]; rfl
    rw [hst] at h hlen
    rw [hrev, hst]
    generalize rd_T56 l i = o at *
    generalize streamS (l.take i) = xs at *
    have hn : 0 ≤ (n : Int) ∧ (n : Int) ≤ 1099511627776 := by omega
    have go_on : ∀ (m : Int), oneS o n = some m → rd_T44 (oneT o xs) n = rd_T44 xs m → 0 ≤ m → m < xs.length →
        goS (o :: (l.take i).reverse) n = ((rd_T44 (oneT o xs) n).f0, (rd_T44 (oneT o xs) n).f1, (rd_T44 (oneT o xs) n).f2) := by
      intro m h1 h2 h3 h4
      obtain ⟨j, rfl⟩ := Int.eq_ofNat_of_zero_le h3
      simp only [goS, h1]
      rw [h2]
      exact ih j (by omega)
    unfold oneT at h hlen go_on ⊢
    by_cases h3 : o.f0 = 3
    · simp only [if_pos h3] at h hlen go_on ⊢
      have hN := hO.2.2.1 (by omega)
      obtain ⟨e1, e2⟩ := over_get o.f1 hN.1 xs n h
      exact go_on _ (one_over hO hn h3) e1 (Int.ediv_nonneg (by omega) (by omega)) e2
    · by_cases h4 : o.f0 = 4
      · simp only [if_neg h3, if_pos h4] at h hlen go_on ⊢
        have hN := hO.2.2.1 (by omega)
        obtain ⟨e1, e2⟩ := under_get o.f1 hN.1 xs n h
        rcases one_under hO hn h4 with ⟨_, h5⟩ | ⟨h5, _⟩
        · exact go_on _ h5 e1 (Int.mul_nonneg (by omega) (by omega)) e2
        · omega
      · by_cases h5 : o.f0 = 5
        · simp only [if_neg h3, if_neg h4, if_pos h5] at h hlen go_on ⊢
          exact go_on _ (one_shift hn h5) rfl (by omega) (by omega)
        · by_cases h7 : o.f0 = 7
          · simp only [if_neg h3, if_neg h4, if_neg h5, if_pos h7] at h hlen go_on ⊢
            obtain ⟨e1, e2⟩ := tail_get xs n h
            rcases one_tail hn h7 with ⟨_, h8⟩ | ⟨h8, _⟩
            · exact go_on _ h8 e1 (by omega) e2
            · omega
          · simp only [if_neg h3, if_neg h4, if_neg h5, if_neg h7] at h hlen go_on ⊢
            rcases one_fby hn (show o.f0 = 6 ∨ o.f0 = 8 by have := hO.1; have := hO.2.1; omega) with ⟨h8, h9, h10⟩ | ⟨h8, h9⟩
            · simp only [goS, h9, h10]
              obtain rfl : n = 0 := by omega
              rfl
            · refine go_on _ h9 ?_ (by omega) (by simp at h; omega)
              obtain ⟨m, rfl⟩ : ∃ m, n = m + 1 := ⟨n - 1, by omega⟩
              rw [show ((m + 1 : Nat) : Int) - 1 = (m : Int) by omega]
              exact rd_eq (List.getElem?_cons_succ)

theorem law_l0 (l : List S56) (xs : List S44) (hx : xs.length ≤ 1000) (h : ∀ n : Nat, n < xs.length → goS l.reverse n = ((rd_T44 xs n).f0, (rd_T44 xs n).f1, (rd_T44 xs n).f2)) :
    ∀ (d i : Nat), i + d = xs.length → ∀ k, d + 1 ≤ k → horariumlaw07_IndexStreams.l0 k l xs i = some true
  | 0, i, hi, k, hk => by
    obtain ⟨k, rfl⟩ : ∃ j, k = j + 1 := ⟨k - 1, by omega⟩
    simp only [horariumlaw07_IndexStreams.l0]
    rw [if_neg (by omega)]
  | d + 1, i, hi, k, hk => by
    obtain ⟨k, rfl⟩ : ∃ j, k = j + 1 := ⟨k - 1, by omega⟩
    have hb : backS l i = ((rd_T44 xs i).f0, (rd_T44 xs i).f1, (rd_T44 xs i).f2) := by
      unfold backS
      rw [if_pos (inB_iff.2 (by omega))]
      exact h i (by omega)
    simp only [horariumlaw07_IndexStreams.l0, index_Back.f, Option.bind_some]
    rw [if_pos (by omega), if_pos (by omega), hb]
    simp only [if_true]
    rw [wrap64_id (by omega) (by omega)]
    exact law_l0 l xs hx h d (i + 1) (by omega) k (by omega)
theorem IndexStreams (l : List S56) (hl : (l.length : Int) ≤ 9223372036854775807) : ∃ k, horariumlaw07_IndexStreams.f k l = some true := by
  obtain ⟨K, hK⟩ : ∃ K, l.length + 1500 ≤ K := ⟨_, Nat.le_refl _⟩
  refine ⟨K + 1, ?_⟩
  unfold horariumlaw07_IndexStreams.f
  rw [awake_f]
  simp only [Option.bind_some, if_true]
  obtain ⟨b, h1, h2⟩ := right_f l hl (K + 1) (by omega)
  rw [h1]
  simp only [Option.bind_some]
  by_cases hr : RightR l
  · rw [h2.2 hr]
    simp only [horariumlaw07_IndexStreams.j0]
    have hs : horariumref07_Stream.f l 200 = some (streamS l) := by
      unfold horariumref07_Stream.f
      rw [if_pos ⟨rfl, right_ok l hr⟩]
    have hlen := stream_len l (right_ok l hr) l.length (by omega)
    have hsame := same l hr l.length (by omega)
    rw [List.take_of_length_le (by omega)] at hlen hsame
    have h20 := hr.2
    rw [if_neg (by simp), hs]
    simp only [Option.bind_some]
    exact law_l0 l (streamS l) (by omega) hsame (streamS l).length 0 (by omega) _ (by omega)
  · have hb : b = false := by
      cases b
      · rfl
      · exact absurd (h2.1 rfl) hr
    subst hb
    simp only [horariumlaw07_IndexStreams.j0, Bool.not_false, if_true]
    rw [awake_f]
    rfl

theorem op56 (n : Nat) : OpN Try.prog 56 k56 (fun _ => True) n := by
  cases n with
  | zero => exact op_zero _ _ _ _
  | succ n => exact (op_struct (f := fun x : S56 => (x.f0, x.f1, x.f2)) (g := fun y => ⟨y.1, y.2.1, y.2.2⟩) (fun _ => rfl) Try.underlying56 (fs_cons (o := 0) (o' := 1) rfl (by kernel_rfl) (op_int Try.underlying3 n) (fs_cons (o := 1) (o' := 2) rfl (by kernel_rfl) (op_int Try.underlying2 n) (fs_last rfl (by kernel_rfl) (op_int Try.underlying2 n))))).imp fun _ _ => trivial
theorem walk (w : World) (A : Option Addr) (c : Nat) (l : List S56) (hc : l.length ≤ c) (hC : Kd.C k56 w A l.length l) (hm : l.length ≤ maxLen) (_ : ∀ x ∈ l, True) :
    Calls Try.prog 9 #[.slice A l.length c] w fun e w' => e = .returned (.bool true) ∧ Below w.heap.size w w' := by
  unfold maxLen at hm
  obtain ⟨k, hk⟩ := IndexStreams l (by omega)
  exact horariumlaw07_IndexStreams.calls k A c l true w hC hc hk
end Go.Proofs.Ytkiaglpkijhbmaa.Pure
