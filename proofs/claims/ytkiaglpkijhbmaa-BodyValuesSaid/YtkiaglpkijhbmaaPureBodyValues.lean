/- Of all bodies that may be read, with whatever arguments, the value is the chapter's; so is how many parameters stand there (BodyValues): for all expressions, parameters and arguments; no condition. -/
import Derived.Test.YtkiaglpkijhbmaaOpenKd
import Derived.Test.YtkiaglpkijhbmaaMath
import Derived.Test.YtkiaglpkijhbmaaRBodyValuesx6
namespace Go.Proofs.Ytkiaglpkijhbmaa.Pure
open Go.RowKit Go.Proofs.Ytkiaglpkijhbmaa.PBodyValues Go.Proofs.YtkiaglpkijhbmaaW.PrintWords Go.Proofs.YtkiaglpkijhbmaaW.PrintMore Go.Proofs.YtkiaglpkijhbmaaW.PrintLast Go.Proofs.Ytkiaglpkijhbmaa.Math Go.Proofs.Ytkiaglpkijhbmaa.OpenKd

abbrev sizeE (k : Nat) (e : S59) (m : Int) := horariumref04_Size.f k e.f0 e.f1 e.f2 e.f3 e.f4 e.f5 m
abbrev depthE (k : Nat) (e : S59) (m : Int) := horariumref04_Depth.f k e.f0 e.f1 e.f2 e.f3 e.f4 e.f5 m
abbrev bodyE (k : Nat) (e : S59) := horariumref04_Body.f k e.f0 e.f1 e.f2 e.f3 e.f4 e.f5
abbrev namesE (k : Nat) (e : S59) := body_Names.f k e.f0 e.f1 e.f2 e.f3 e.f4 e.f5
abbrev countE (k : Nat) (e : S59) := horariumref05_Count.f k e.f0 e.f1 e.f2 e.f3 e.f4 e.f5
abbrev valueE (k : Nat) (e : S59) (ps : List ByteArray) (vs : List Int) := horariumref05_Value.f k e.f0 e.f1 e.f2 e.f3 e.f4 e.f5 ps vs

theorem child_lt {x e : S59} (h : x ∈ e.f4) : SizeOf.sizeOf x < SizeOf.sizeOf e := by
  have h1 := List.sizeOf_lt_of_mem h
  obtain ⟨f0, f1, f2, f3, f4, f5⟩ := e
  simp only [S59.mk.sizeOf_spec] at *
  omega
theorem rd_mem {l : List S59} {i : Nat} (h : i < l.length) : rd_T59 l (i : Int) = l[i] := by simp [rd_T59, h]

theorem eta59 (e : S59) : (⟨e.f0, e.f1, e.f2, e.f3, e.f4, e.f5⟩ : S59) = e := by cases e; rfl
/-- How many expressions stand there. -/
def cnt (e : S59) : Nat := 1 + (e.f4.attach.map fun x => cnt x.1).sum
termination_by SizeOf.sizeOf e
decreasing_by exact child_lt x.2
theorem cnt_eq (e : S59) : cnt e = 1 + (e.f4.map cnt).sum := by
  rw [cnt]
  congr 2
  rw [List.map_attach_eq_pmap]
  simp
theorem sum_take {l : List S59} {i : Nat} (h : i < l.length) : ((l.take (i + 1)).map cnt).sum = ((l.take i).map cnt).sum + cnt l[i] := by
  rw [List.take_succ_eq_append_getElem h, List.map_append, List.sum_append]
  simp

/-! ### Size: exact where it isn't too great -/
theorem size_loop (e : S59) (hl : (e.f4.length : Int) ≤ 9223372036854775807) (hih : ∀ x ∈ e.f4, ∀ m : Int, 0 ≤ m → m ≤ 100 → ∃ K n, (∀ k, K ≤ k → sizeE k x m = some n) ∧ 1 ≤ n ∧ n ≤ m + 1 ∧ (n ≤ m → n = (cnt x : Int)))
    (m : Int) (h0 : 0 ≤ m) (h1 : m ≤ 100) : ∀ (d i : Nat) (n : Int), i + d = e.f4.length → 1 ≤ n → n ≤ m + 1 → (n ≤ m → n = 1 + (((e.f4.take i).map cnt).sum : Nat)) →
    ∃ K r, (∀ k, K ≤ k → horariumref04_Size.l0 k m n i e.f0 e.f1 e.f2 e.f3 e.f4 e.f5 = some r) ∧ 1 ≤ r ∧ r ≤ m + 1 ∧ (r ≤ m → r = (cnt e : Int))
  | 0, i, n, hi, hn, hn2, hc => by
    refine ⟨1, n, fun k hk => ?_, hn, hn2, fun h => ?_⟩
    · obtain ⟨k, rfl⟩ : ∃ j, k = j + 1 := ⟨k - 1, by omega⟩
      simp only [horariumref04_Size.l0]
      rw [if_neg (by omega)]
    · rw [hc h, cnt_eq, List.take_of_length_le (by omega)]
      omega
  | d + 1, i, n, hi, hn, hn2, hc => by
    have hlt : i < e.f4.length := by omega
    by_cases hnm : n ≤ m
    · obtain ⟨K1, t, hK1, ht, ht2, htc⟩ := hih e.f4[i] (List.getElem_mem hlt) (m - n) (by omega) (by omega)
      have hw : wrap64 (n + t) = n + t := wrap64_id (by omega) (by omega)
      obtain ⟨K2, r, hK2, hr⟩ := size_loop e hl hih m h0 h1 d (i + 1) (n + t) (by omega) (by omega) (by omega) (fun h => by
        have e1 := hc hnm
        have e2 := htc (by omega)
        rw [sum_take hlt]
        omega)
      refine ⟨max K1 K2 + 1, r, fun k hk => ?_, hr⟩
      obtain ⟨k, rfl⟩ : ∃ j, k = j + 1 := ⟨k - 1, by omega⟩
      simp only [horariumref04_Size.l0]
      rw [if_pos (by omega), if_pos hnm, if_pos (by omega), rd_mem hlt, wrap64_id (n := m - n) (by omega) (by omega)]
      have := hK1 k (by omega)
      unfold sizeE at this
      rw [this]
      simp only [Option.bind_some]
      rw [hw, wrap64_id (n := (i : Int) + 1) (by omega) (by omega)]
      exact hK2 k (by omega)
    · refine ⟨1, n, fun k hk => ?_, hn, hn2, fun h => absurd h hnm⟩
      obtain ⟨k, rfl⟩ : ∃ j, k = j + 1 := ⟨k - 1, by omega⟩
      simp only [horariumref04_Size.l0]
      rw [if_pos (by omega), if_neg hnm]

/-- A tree whose rows all fit in memory, nested at most n deep. -/
def BdN : Nat → S59 → Prop
  | 0, _ => False
  | n + 1, e => (e.f1.size ≤ maxLen ∧ (Lit.int .i64 e.f2).wf = true ∧ e.f4.length ≤ maxLen) ∧ ∀ x ∈ e.f4, BdN n x
theorem bd_len {e : S59} {n : Nat} (h : BdN (n + 1) e) : (e.f4.length : Int) ≤ 9223372036854775807 := by
  have := h.1.2.2
  unfold maxLen at this
  omega
theorem size_f : ∀ (n : Nat) (e : S59), BdN n e → ∀ m : Int, 0 ≤ m → m ≤ 100 → ∃ K r, (∀ k, K ≤ k → sizeE k e m = some r) ∧ 1 ≤ r ∧ r ≤ m + 1 ∧ (r ≤ m → r = (cnt e : Int))
  | 0, _, h, _, _, _ => h.elim
  | n + 1, e, h, m, h0, h1 => by
    obtain ⟨K, r, hK, hr, hr2, hc⟩ := size_loop e (bd_len h) (fun x hx m h0 h1 => size_f n x (h.2 x hx) m h0 h1) m h0 h1 e.f4.length 0 1 (by omega) (by omega) (by omega) (by simp)
    refine ⟨K + 1, r, fun k hk => ?_, hr, hr2, hc⟩
    obtain ⟨k, rfl⟩ : ∃ j, k = j + 1 := ⟨k - 1, by omega⟩
    unfold sizeE
    simp only [horariumref04_Size.f]
    exact hK k (by omega)

/-! ### Depth: told -/
theorem depth_loop (e : S59) (hl : (e.f4.length : Int) ≤ 9223372036854775807) (m : Int) (hih : ∀ x ∈ e.f4, ∀ m : Int, ∃ K n, ∀ k, K ≤ k → depthE k x m = some n) : ∀ (d i : Nat) (n : Int), i + d = e.f4.length →
    ∃ K r, ∀ k, K ≤ k → horariumref04_Depth.l0 k m n i e.f0 e.f1 e.f2 e.f3 e.f4 e.f5 = some r
  | 0, i, n, hi => by
    refine ⟨1, wrap64 (n + 1), fun k hk => ?_⟩
    obtain ⟨k, rfl⟩ : ∃ j, k = j + 1 := ⟨k - 1, by omega⟩
    simp only [horariumref04_Depth.l0]
    rw [if_neg (by omega)]
  | d + 1, i, n, hi => by
    have hlt : i < e.f4.length := by omega
    obtain ⟨K1, t, hK1⟩ := hih e.f4[i] (List.getElem_mem hlt) (wrap64 (m - 1))
    obtain ⟨K2, r, hK2⟩ := depth_loop e hl m hih d (i + 1) (mx n t) (by omega)
    refine ⟨max K1 K2 + 1, r, fun k hk => ?_⟩
    obtain ⟨k, rfl⟩ : ∃ j, k = j + 1 := ⟨k - 1, by omega⟩
    simp only [horariumref04_Depth.l0]
    rw [if_pos (by omega), if_pos (by omega), rd_mem hlt]
    have := hK1 k (by omega)
    unfold depthE at this
    rw [this]
    simp only [Option.bind_some]
    rw [wrap64_id (n := (i : Int) + 1) (by omega) (by omega)]
    exact hK2 k (by omega)
theorem depth_f : ∀ (n : Nat) (e : S59), BdN n e → ∀ m : Int, ∃ K r, ∀ k, K ≤ k → depthE k e m = some r
  | 0, _, h, _ => h.elim
  | n + 1, e, h, m => by
    by_cases h0 : m = 0
    · refine ⟨1, 0, fun k hk => ?_⟩
      obtain ⟨k, rfl⟩ : ∃ j, k = j + 1 := ⟨k - 1, by omega⟩
      unfold depthE
      simp only [horariumref04_Depth.f]
      rw [if_pos h0]
    · obtain ⟨K, r, hK⟩ := depth_loop e (bd_len h) m (fun x hx m => depth_f n x (h.2 x hx) m) e.f4.length 0 0 (by omega)
      refine ⟨K + 1, r, fun k hk => ?_⟩
      obtain ⟨k, rfl⟩ : ∃ j, k = j + 1 := ⟨k - 1, by omega⟩
      unfold depthE
      simp only [horariumref04_Depth.f]
      rw [if_neg h0]
      exact hK k (by omega)

/-! ### Names of layer 3: told -/
theorem word_l0 (s : ByteArray) (l : List ByteArray) (hl : (l.length : Int) ≤ 9223372036854775807) : ∀ (d i : Nat), i + d = l.length → ∃ b, ∀ k, d + 1 ≤ k → horariumref03_Word.l0 k s l i = some b
  | 0, i, hi => by
    refine ⟨false, fun k hk => ?_⟩
    obtain ⟨k, rfl⟩ : ∃ j, k = j + 1 := ⟨k - 1, by omega⟩
    simp only [horariumref03_Word.l0]
    rw [if_neg (by omega)]
  | d + 1, i, hi => by
    obtain ⟨b, hb⟩ := word_l0 s l hl d (i + 1) (by omega)
    by_cases h : (rdOf ByteArray.empty l (i : Int)).toList = s.toList
    · refine ⟨true, fun k hk => ?_⟩
      obtain ⟨k, rfl⟩ : ∃ j, k = j + 1 := ⟨k - 1, by omega⟩
      simp only [horariumref03_Word.l0]
      rw [if_pos (by omega), if_pos (by omega), if_pos h]
    · refine ⟨b, fun k hk => ?_⟩
      obtain ⟨k, rfl⟩ : ∃ j, k = j + 1 := ⟨k - 1, by omega⟩
      simp only [horariumref03_Word.l0]
      rw [if_pos (by omega), if_pos (by omega), if_neg h, wrap64_id (by omega) (by omega)]
      exact hb k (by omega)
theorem word_f (s : ByteArray) : ∃ K b, ∀ k, K ≤ k → horariumref03_Word.f k s = some b := by
  unfold horariumref03_Word.f lex_Words.f
  simp only [Option.bind_some]
  obtain ⟨b, hb⟩ := word_l0 s [(⟨#[110, 111, 100, 101]⟩ : ByteArray), (⟨#[98, 117, 100, 103, 101, 116]⟩ : ByteArray), (⟨#[105, 110, 112, 117, 116]⟩ : ByteArray), (⟨#[112, 101, 114, 105, 111, 100]⟩ : ByteArray), (⟨#[112, 104, 97, 115, 101]⟩ : ByteArray), (⟨#[102, 108, 111, 119]⟩ : ByteArray), (⟨#[102, 98, 121]⟩ : ByteArray), (⟨#[116, 97, 105, 108]⟩ : ByteArray), (⟨#[111, 117, 116, 112, 117, 116]⟩ : ByteArray), (⟨#[100, 101, 97, 100, 108, 105, 110, 101]⟩ : ByteArray)] (by simp) 10 0 (by simp)
  exact ⟨11, b, fun k hk => hb k (by omega)⟩
theorem small_f (n : Int) : ∃ b, horariumref03_small.f n = some b := by unfold horariumref03_small.f; split <;> exact ⟨_, rfl⟩
theorem digit_f (n : Int) : ∃ b, horariumref03_digit.f n = some b := by unfold horariumref03_digit.f; split <;> exact ⟨_, rfl⟩
theorem right_l0 (s : ByteArray) (hs : (s.size : Int) ≤ 9223372036854775807) : ∀ (d i : Nat), i + d = s.size → ∃ K b, ∀ k, K ≤ k → horariumref03_Right.l0 k s i = some b
  | 0, i, hi => by
    obtain ⟨K, b, hb⟩ := word_f s
    by_cases he : s.toList = ([] : List UInt8)
    · refine ⟨1, false, fun k hk => ?_⟩
      obtain ⟨k, rfl⟩ : ∃ j, k = j + 1 := ⟨k - 1, by omega⟩
      simp only [horariumref03_Right.l0]
      rw [if_neg (by omega), if_pos he]
    · by_cases h100 : (s.size : Int) ≤ 100
      · refine ⟨K + 1, !b, fun k hk => ?_⟩
        obtain ⟨k, rfl⟩ : ∃ j, k = j + 1 := ⟨k - 1, by omega⟩
        simp only [horariumref03_Right.l0]
        rw [if_neg (by omega), if_neg he, if_pos h100, hb k (by omega)]
        rfl
      · refine ⟨1, false, fun k hk => ?_⟩
        obtain ⟨k, rfl⟩ : ∃ j, k = j + 1 := ⟨k - 1, by omega⟩
        simp only [horariumref03_Right.l0]
        rw [if_neg (by omega), if_neg he, if_neg h100]
  | d + 1, i, hi => by
    obtain ⟨K, b, hb⟩ := right_l0 s hs d (i + 1) (by omega)
    obtain ⟨b1, h1⟩ := small_f (bt s i)
    obtain ⟨b2, h2⟩ := digit_f (bt s i)
    have hw : wrap64 ((i : Int) + 1) = ((i + 1 : Nat) : Int) := by rw [wrap64_id (by omega) (by omega)]; omega
    have main : ∀ k, horariumref03_Right.l0 (k + 1) s i = if b1 = true then horariumref03_Right.l0 k s ((i + 1 : Nat) : Int) else if (i : Int) = 0 then some false else if b2 = true then horariumref03_Right.l0 k s ((i + 1 : Nat) : Int) else if bt s i = 95 then horariumref03_Right.l0 k s ((i + 1 : Nat) : Int) else some false := by
      intro k
      simp only [horariumref03_Right.l0]
      rw [if_pos (by omega), if_pos (by omega), h1, h2, hw]
      simp only [Option.bind_some]
    by_cases c1 : b1 = true
    · refine ⟨K + 1, b, fun k hk => ?_⟩
      obtain ⟨k, rfl⟩ : ∃ j, k = j + 1 := ⟨k - 1, by omega⟩
      rw [main, if_pos c1]
      exact hb k (by omega)
    · by_cases c0 : (i : Int) = 0
      · refine ⟨1, false, fun k hk => ?_⟩
        obtain ⟨k, rfl⟩ : ∃ j, k = j + 1 := ⟨k - 1, by omega⟩
        rw [main, if_neg c1, if_pos c0]
      · by_cases c2 : b2 = true ∨ bt s i = 95
        · refine ⟨K + 1, b, fun k hk => ?_⟩
          obtain ⟨k, rfl⟩ : ∃ j, k = j + 1 := ⟨k - 1, by omega⟩
          rw [main, if_neg c1, if_neg c0]
          by_cases c3 : b2 = true
          · rw [if_pos c3]; exact hb k (by omega)
          · rw [if_neg c3, if_pos (by rcases c2 with h | h; exact absurd h c3; exact h)]; exact hb k (by omega)
        · refine ⟨1, false, fun k hk => ?_⟩
          obtain ⟨k, rfl⟩ : ∃ j, k = j + 1 := ⟨k - 1, by omega⟩
          rw [main, if_neg c1, if_neg c0, if_neg (fun h => c2 (.inl h)), if_neg (fun h => c2 (.inr h))]
theorem right_f (s : ByteArray) (hs : (s.size : Int) ≤ 9223372036854775807) : ∃ K b, ∀ k, K ≤ k → horariumref03_Right.f k s = some b := right_l0 s hs s.size 0 (by omega)

/-! ### Body: told, and what it lets in -/
/-- What a body is at its root. -/
def Shape (e : S59) : Prop := (e.f0 = 11 ∧ e.f4.length = 0) ∨ (e.f0 = 12 ∧ e.f4.length = 0) ∨ (e.f0 = 13 ∧ ((e.f1.toList = ([63] : List UInt8) ∧ e.f4.length = 3) ∨ (e.f1.toList ≠ ([63] : List UInt8) ∧ e.f4.length = 2)))
def BOk : Nat → S59 → Prop
  | 0, _ => False
  | n + 1, e => Shape e ∧ ∀ x ∈ e.f4, BOk n x
theorem body_l1 (e : S59) (l : List ByteArray) (hl : (l.length : Int) ≤ 9223372036854775807) : ∀ (d i : Nat), i + d = l.length →
    ∃ b, (∀ k, d + 1 ≤ k → horariumref04_Body.l1 k l i e.f0 e.f1 e.f2 e.f3 e.f4 e.f5 = some b) ∧ (b = true → e.f4.length = 2)
  | 0, i, hi => by
    refine ⟨false, fun k hk => ?_, fun h => by cases h⟩
    obtain ⟨k, rfl⟩ : ∃ j, k = j + 1 := ⟨k - 1, by omega⟩
    simp only [horariumref04_Body.l1]
    rw [if_neg (by omega)]
  | d + 1, i, hi => by
    by_cases h : (rdOf ByteArray.empty l (i : Int)).toList = e.f1.toList
    · refine ⟨((e.f4.length : Int) == 2), fun k hk => ?_, fun h => by have := eq_of_beq h; omega⟩
      obtain ⟨k, rfl⟩ : ∃ j, k = j + 1 := ⟨k - 1, by omega⟩
      simp only [horariumref04_Body.l1]
      rw [if_pos (by omega), if_pos (by omega), if_pos h]
    · obtain ⟨b, hb, hb2⟩ := body_l1 e l hl d (i + 1) (by omega)
      refine ⟨b, fun k hk => ?_, hb2⟩
      obtain ⟨k, rfl⟩ : ∃ j, k = j + 1 := ⟨k - 1, by omega⟩
      simp only [horariumref04_Body.l1]
      rw [if_pos (by omega), if_pos (by omega), if_neg h, wrap64_id (by omega) (by omega)]
      exact hb k (by omega)
theorem body_j1 (e : S59) (x : Bool) : ∃ b, (∀ k, 20 ≤ k → horariumref04_Body.j1 k x e.f0 e.f1 e.f2 e.f3 e.f4 e.f5 = some b) ∧ (b = true → x = false ∧ ((e.f1.toList = ([63] : List UInt8) ∧ e.f4.length = 3) ∨ (e.f1.toList ≠ ([63] : List UInt8) ∧ e.f4.length = 2))) := by
  by_cases hx : x = true
  · refine ⟨false, fun k hk => ?_, fun h => by cases h⟩
    obtain ⟨k, rfl⟩ : ∃ j, k = j + 1 := ⟨k - 1, by omega⟩
    simp only [horariumref04_Body.j1]
    rw [if_pos hx]
  · by_cases hq : e.f1.toList = ([63] : List UInt8)
    · refine ⟨((e.f4.length : Int) == 3), fun k hk => ?_, fun h => ⟨by simpa using hx, .inl ⟨hq, by have := eq_of_beq h; omega⟩⟩⟩
      obtain ⟨k, rfl⟩ : ∃ j, k = j + 1 := ⟨k - 1, by omega⟩
      simp only [horariumref04_Body.j1]
      rw [if_neg hx, if_pos hq]
    · obtain ⟨b, hb, hb2⟩ := body_l1 e (([(⟨#[43]⟩ : ByteArray), (⟨#[45]⟩ : ByteArray), (⟨#[42]⟩ : ByteArray), (⟨#[47]⟩ : ByteArray), (⟨#[37]⟩ : ByteArray), (⟨#[60]⟩ : ByteArray), (⟨#[61, 61]⟩ : ByteArray)] : List ByteArray)) (by simp) 7 0 (by simp)
      refine ⟨b, fun k hk => ?_, fun h => ⟨by simpa using hx, .inr ⟨hq, hb2 h⟩⟩⟩
      obtain ⟨k, rfl⟩ : ∃ j, k = j + 1 := ⟨k - 1, by omega⟩
      simp only [horariumref04_Body.j1]
      rw [if_neg hx, if_neg hq]
      exact hb k (by omega)
/-- Behind the children. -/
theorem body_end (e : S59) (hs : (e.f1.size : Int) ≤ 9223372036854775807) (i : Nat) (hi : e.f4.length ≤ i) : ∃ K b, (∀ k, K ≤ k → horariumref04_Body.l0 k i e.f0 e.f1 e.f2 e.f3 e.f4 e.f5 = some b) ∧ (b = true → Shape e) := by
  have main : ∀ k, horariumref04_Body.l0 (k + 1) i e.f0 e.f1 e.f2 e.f3 e.f4 e.f5 = (if e.f3 = 0 then (if e.f0 = 11 then ((horariumref03_Right.f k e.f1).bind fun t125 => (if t125 = true then (if (e.f4.length : Int) = 0 then (some (e.f2 == 0)) else (some false)) else (some false))) else (if e.f0 = 12 then (if e.f1.toList = ([] : List UInt8) then (if (e.f4.length : Int) = 0 then ((horariumref04_number.f e.f2 0 1000000000).bind fun t126 => (some t126)) else (some false)) else (some false)) else (if e.f0 = 13 then (horariumref04_Body.j1 k (e.f2 != 0) e.f0 e.f1 e.f2 e.f3 e.f4 e.f5) else (horariumref04_Body.j1 k true e.f0 e.f1 e.f2 e.f3 e.f4 e.f5)))) else (some false)) := by
    intro k
    simp only [horariumref04_Body.l0]
    rw [if_neg (by omega)]
  have mk : ∀ (K : Nat) (o : Nat → Option Bool) (b : Bool), (∀ k, horariumref04_Body.l0 (k + 1) i e.f0 e.f1 e.f2 e.f3 e.f4 e.f5 = o k) → (∀ k, K ≤ k → o k = some b) → (b = true → Shape e) → ∃ K b, (∀ k, K ≤ k → horariumref04_Body.l0 k i e.f0 e.f1 e.f2 e.f3 e.f4 e.f5 = some b) ∧ (b = true → Shape e) := by
    intro K o b h1 h2 h3
    refine ⟨K + 1, b, fun k hk => ?_, h3⟩
    obtain ⟨k, rfl⟩ : ∃ j, k = j + 1 := ⟨k - 1, by omega⟩
    rw [h1]
    exact h2 k (by omega)
  by_cases h3 : e.f3 = 0
  · by_cases h11 : e.f0 = 11
    · obtain ⟨K, b, hb⟩ := right_f e.f1 hs
      by_cases hl : (e.f4.length : Int) = 0
      · refine mk K _ (if b = true then (e.f2 == 0) else false) main (fun k hk => ?_) fun _ => .inl ⟨h11, by omega⟩
        rw [if_pos h3, if_pos h11, hb k hk]
        simp only [Option.bind_some]
        rw [if_pos hl]
        split <;> rfl
      · refine mk K _ false main (fun k hk => ?_) fun h => by cases h
        rw [if_pos h3, if_pos h11, hb k hk]
        simp only [Option.bind_some]
        rw [if_neg hl]
        split <;> rfl
    · by_cases h12 : e.f0 = 12
      · by_cases he : e.f1.toList = ([] : List UInt8)
        · by_cases hl : (e.f4.length : Int) = 0
          · obtain ⟨b, hb⟩ : ∃ b, horariumref04_number.f e.f2 0 1000000000 = some b := by unfold horariumref04_number.f; split <;> exact ⟨_, rfl⟩
            refine mk 0 _ b main (fun k hk => ?_) fun _ => .inr (.inl ⟨h12, by omega⟩)
            rw [if_pos h3, if_neg h11, if_pos h12, if_pos he, if_pos hl, hb]
            rfl
          · refine mk 0 _ false main (fun k hk => ?_) fun h => by cases h
            rw [if_pos h3, if_neg h11, if_pos h12, if_pos he, if_neg hl]
        · refine mk 0 _ false main (fun k hk => ?_) fun h => by cases h
          rw [if_pos h3, if_neg h11, if_pos h12, if_neg he]
      · by_cases h13 : e.f0 = 13
        · obtain ⟨b, hb, hb2⟩ := body_j1 e (e.f2 != 0)
          refine mk 20 _ b main (fun k hk => ?_) fun h => .inr (.inr ⟨h13, (hb2 h).2⟩)
          rw [if_pos h3, if_neg h11, if_neg h12, if_pos h13]
          exact hb k hk
        · obtain ⟨b, hb, hb2⟩ := body_j1 e true
          refine mk 20 _ b main (fun k hk => ?_) fun h => by have := (hb2 h).1; cases this
          rw [if_pos h3, if_neg h11, if_neg h12, if_neg h13]
          exact hb k hk
  · refine mk 0 _ false main (fun k hk => ?_) fun h => by cases h
    rw [if_neg h3]
theorem body_l0 (e : S59) (n : Nat) (hs : (e.f1.size : Int) ≤ 9223372036854775807) (hl : (e.f4.length : Int) ≤ 9223372036854775807) (hih : ∀ x ∈ e.f4, ∃ K b, (∀ k, K ≤ k → bodyE k x = some b) ∧ (b = true → BOk n x)) : ∀ (d i : Nat), i + d = e.f4.length →
    ∃ K b, (∀ k, K ≤ k → horariumref04_Body.l0 k i e.f0 e.f1 e.f2 e.f3 e.f4 e.f5 = some b) ∧ (b = true → Shape e ∧ ∀ x ∈ e.f4.drop i, BOk n x)
  | 0, i, hi => by
    obtain ⟨K, b, hb, hb2⟩ := body_end e hs i (by omega)
    exact ⟨K, b, hb, fun h => ⟨hb2 h, by rw [List.drop_of_length_le (by omega)]; simp⟩⟩
  | d + 1, i, hi => by
    have hlt : i < e.f4.length := by omega
    obtain ⟨K1, b1, hK1, hb1⟩ := hih e.f4[i] (List.getElem_mem hlt)
    obtain ⟨K2, b2, hK2, hb2⟩ := body_l0 e n hs hl hih d (i + 1) (by omega)
    have main : ∀ k, K1 ≤ k → horariumref04_Body.l0 (k + 1) i e.f0 e.f1 e.f2 e.f3 e.f4 e.f5 = if b1 = true then horariumref04_Body.l0 k ((i + 1 : Nat) : Int) e.f0 e.f1 e.f2 e.f3 e.f4 e.f5 else some false := by
      intro k hk
      have := hK1 k hk
      unfold bodyE at this
      simp only [horariumref04_Body.l0]
      rw [if_pos (by omega), if_pos (by omega), rd_mem hlt, this, wrap64_id (n := (i : Int) + 1) (by omega) (by omega)]
      rfl
    by_cases hb : b1 = true
    · refine ⟨max K1 K2 + 1, b2, fun k hk => ?_, fun h => ⟨(hb2 h).1, ?_⟩⟩
      · obtain ⟨k, rfl⟩ : ∃ j, k = j + 1 := ⟨k - 1, by omega⟩
        rw [main k (by omega), if_pos hb]
        exact hK2 k (by omega)
      · rw [List.drop_eq_getElem_cons hlt]
        intro x hx
        rcases List.mem_cons.1 hx with rfl | hx
        · exact hb1 hb
        · exact (hb2 h).2 x hx
    · refine ⟨K1 + 1, false, fun k hk => ?_, fun h => by cases h⟩
      obtain ⟨k, rfl⟩ : ∃ j, k = j + 1 := ⟨k - 1, by omega⟩
      rw [main k (by omega), if_neg hb]
theorem bd_str {e : S59} {n : Nat} (h : BdN (n + 1) e) : (e.f1.size : Int) ≤ 9223372036854775807 := by
  have := h.1.1
  unfold maxLen at this
  omega
theorem body_f : ∀ (n : Nat) (e : S59), BdN n e → ∃ K b, (∀ k, K ≤ k → bodyE k e = some b) ∧ (b = true → BOk n e)
  | 0, _, h => h.elim
  | n + 1, e, h => by
    obtain ⟨K, b, hK, hb⟩ := body_l0 e n (bd_str h) (bd_len h) (fun x hx => body_f n x (h.2 x hx)) e.f4.length 0 (by omega)
    refine ⟨K + 1, b, fun k hk => ?_, fun h => ⟨(hb h).1, by simpa using (hb h).2⟩⟩
    obtain ⟨k, rfl⟩ : ∃ j, k = j + 1 := ⟨k - 1, by omega⟩
    unfold bodyE
    simp only [horariumref04_Body.f]
    exact hK k (by omega)

/-! ### The parameters that stand there -/
theorem cnt_pos (e : S59) : 1 ≤ cnt e := by rw [cnt_eq]; omega
theorem names_loop (e : S59) (hl : (e.f4.length : Int) ≤ 9223372036854775807) (hc : (e.f4.map cnt).sum ≤ 100) (hih : ∀ x ∈ e.f4, ∃ K l, (∀ k, K ≤ k → namesE k x = some l ∧ countE k x = some (l.length : Int)) ∧ (∀ y ∈ l, y.f0 = 11) ∧ l.length ≤ cnt x) :
    ∀ (d i : Nat) (acc : List S59), i + d = e.f4.length → (∀ y ∈ acc, y.f0 = 11) → acc.length ≤ ((e.f4.take i).map cnt).sum →
    ∃ K l, (∀ k, K ≤ k → body_Names.l0 k acc e.f4 e.f4.length i = some l ∧ horariumref05_Count.l0 k acc.length i e.f0 e.f1 e.f2 e.f3 e.f4 e.f5 = some (l.length : Int)) ∧ (∀ y ∈ l, y.f0 = 11) ∧ l.length ≤ (e.f4.map cnt).sum
  | 0, i, acc, hi, ha, hn => by
    refine ⟨1, acc, fun k hk => ?_, ha, ?_⟩
    · obtain ⟨k, rfl⟩ : ∃ j, k = j + 1 := ⟨k - 1, by omega⟩
      constructor
      · simp only [body_Names.l0]
        rw [if_neg (by omega)]
      · simp only [horariumref05_Count.l0]
        rw [if_neg (by omega)]
    · rw [List.take_of_length_le (by omega)] at hn
      exact hn
  | d + 1, i, acc, hi, ha, hn => by
    have hlt : i < e.f4.length := by omega
    obtain ⟨K1, l1, hK1, h11, hl1⟩ := hih e.f4[i] (List.getElem_mem hlt)
    have hst := sum_take hlt
    have hle : ((e.f4.take (i + 1)).map cnt).sum ≤ (e.f4.map cnt).sum := by
      conv => rhs; rw [← List.take_append_drop (i + 1) e.f4, List.map_append, List.sum_append]
      omega
    have hal : (acc ++ l1).length = acc.length + l1.length := List.length_append
    obtain ⟨K2, l, hK2, h⟩ := names_loop e hl hc hih d (i + 1) (acc ++ l1) (by omega) (fun y hy => by
      rcases List.mem_append.1 hy with hy | hy
      · exact ha y hy
      · exact h11 y hy) (by omega)
    refine ⟨max K1 K2 + 1, l, fun k hk => ?_, h⟩
    obtain ⟨k, rfl⟩ : ∃ j, k = j + 1 := ⟨k - 1, by omega⟩
    obtain ⟨a1, a2⟩ := hK1 k (by omega)
    obtain ⟨b1, b2⟩ := hK2 k (by omega)
    unfold namesE at a1
    unfold countE at a2
    constructor
    · simp only [body_Names.l0]
      rw [if_pos (by omega), if_pos (by omega), if_pos (by omega), rd_mem hlt, a1]
      simp only [Option.bind_some]
      rw [if_pos (by omega), wrap64_id (n := (i : Int) + 1) (by omega) (by omega)]
      exact b1
    · simp only [horariumref05_Count.l0]
      rw [if_pos (by omega), if_pos (by omega), rd_mem hlt, a2]
      simp only [Option.bind_some]
      rw [wrap64_id (n := (i : Int) + 1) (by omega) (by omega), wrap64_id (n := (acc.length : Int) + (l1.length : Int)) (by omega) (by omega)]
      rw [hal] at b2
      exact_mod_cast b2
theorem cnt_mem {x : S59} {l : List S59} (h : x ∈ l) : cnt x ≤ (l.map cnt).sum := by
  induction l with
  | nil => cases h
  | cons y l ih =>
    simp only [List.map_cons, List.sum_cons]
    rcases List.mem_cons.1 h with rfl | h
    · omega
    · have := ih h
      omega
theorem names_f : ∀ (n : Nat) (e : S59), BdN n e → BOk n e → cnt e ≤ 100 → ∃ K l, (∀ k, K ≤ k → namesE k e = some l ∧ countE k e = some (l.length : Int)) ∧ (∀ y ∈ l, y.f0 = 11) ∧ l.length ≤ cnt e
  | 0, _, h, _, _ => h.elim
  | n + 1, e, h, hB, hc => by
    have hce := cnt_eq e
    by_cases h11 : e.f0 = 11
    · have hl : e.f4.length = 0 := by
        rcases hB.1 with h | h | h
        · exact h.2
        · exact h.2
        · have := h.1; omega
      refine ⟨3, [e], fun k hk => ?_, by simpa using h11, cnt_pos e⟩
      obtain ⟨k, rfl⟩ : ∃ j, k = j + 3 := ⟨k - 3, by omega⟩
      constructor
      · unfold namesE
        simp only [body_Names.f]
        rw [if_pos h11, eta59]
      · unfold countE
        simp only [horariumref05_Count.f]
        rw [if_pos h11]
        simp only [horariumref05_Count.j0, horariumref05_Count.l0]
        rw [if_neg (by omega)]
        rfl
    · obtain ⟨K, l, hK, hl, hn⟩ := names_loop e (bd_len h) (by omega) (fun x hx => names_f n x (h.2 x hx) (hB.2 x hx) (by have := cnt_mem hx; omega)) e.f4.length 0 [] (by omega) (by simp) (by simp)
      refine ⟨K + 2, l, fun k hk => ?_, hl, by omega⟩
      obtain ⟨k, rfl⟩ : ∃ j, k = j + 2 := ⟨k - 2, by omega⟩
      constructor
      · unfold namesE
        simp only [body_Names.f]
        rw [if_neg h11]
        exact (hK (k + 1) (by omega)).1
      · unfold countE
        simp only [horariumref05_Count.f]
        rw [if_neg h11]
        simp only [horariumref05_Count.j0]
        exact (hK k (by omega)).2

/-- A 64-bit number. -/
def InR (a : Int) : Prop := -9223372036854775808 ≤ a ∧ a ≤ 9223372036854775807
theorem natAbs_tmod_le (a b : Int) : (a.tmod b).natAbs ≤ a.natAbs := by
  rw [Int.natAbs_tmod]
  exact Nat.mod_le _ _
theorem mag_f (a : Int) (h0 : -9223372036854775808 ≤ a) (h1 : a ≤ 9223372036854775807) : horariumref05_size.f a = some (a.natAbs : Int) := by
  unfold horariumref05_size.f
  simp only [u64_wrap]
  by_cases h : a < 0
  · rw [if_pos h]; congr 1; omega
  · rw [if_neg h]; congr 1; omega

theorem divide_f (a b : Int) (ha0 : -9223372036854775808 ≤ a) (ha1 : a ≤ 9223372036854775807) (hb0 : -9223372036854775808 ≤ b) (hb1 : b ≤ 9223372036854775807) (hb : b ≠ 0) :
    horariumref05_divide.f a b = some (wrap64 (a.tdiv b), a.tmod b) := by
  unfold horariumref05_divide.f
  rw [if_neg hb, mag_f a ha0 ha1, mag_f b hb0 hb1]
  simp only [Option.bind_some, u64_wrap]
  rw [if_neg (by omega)]
  have hq := natAbs_tdiv_le (a.natAbs : Int) (b.natAbs : Int)
  have hm := natAbs_tmod_lt (a.natAbs : Int) (b := (b.natAbs : Int)) (by omega)
  have hq0 : 0 ≤ (a.natAbs : Int).tdiv (b.natAbs : Int) := Int.tdiv_nonneg (by omega) (by omega)
  have hm0 : 0 ≤ (a.natAbs : Int).tmod (b.natAbs : Int) := Int.tmod_nonneg _ (by omega)
  have key : (a < 0 ∨ ¬ a < 0) ∧ (b < 0 ∨ ¬ b < 0) := ⟨by omega, by omega⟩
  rcases key with ⟨h | h, h' | h'⟩
  · rw [if_pos h, if_pos h']
    have e1 : a.tdiv b = (a.natAbs : Int).tdiv (b.natAbs : Int) := by
      rw [show a = -(a.natAbs : Int) by omega, show b = -(b.natAbs : Int) by omega]
      simp [Int.neg_tdiv, Int.tdiv_neg]
    have e2 : a.tmod b = -(a.natAbs : Int).tmod (b.natAbs : Int) := by
      rw [show a = -(a.natAbs : Int) by omega, show b = -(b.natAbs : Int) by omega]
      simp [Int.neg_tmod, Int.tmod_neg]
    rw [e1, e2]
    generalize (a.natAbs : Int).tdiv (b.natAbs : Int) = q at *
    generalize (a.natAbs : Int).tmod (b.natAbs : Int) = m at *
    unfold wrap64
    congr 2 <;> omega
  · rw [if_pos h, if_neg h']
    have e1 : a.tdiv b = -(a.natAbs : Int).tdiv (b.natAbs : Int) := by
      rw [show a = -(a.natAbs : Int) by omega, show b = (b.natAbs : Int) by omega]
      simp [Int.neg_tdiv]
    have e2 : a.tmod b = -(a.natAbs : Int).tmod (b.natAbs : Int) := by
      rw [show a = -(a.natAbs : Int) by omega, show b = (b.natAbs : Int) by omega]
      simp [Int.neg_tmod]
    rw [e1, e2]
    generalize (a.natAbs : Int).tdiv (b.natAbs : Int) = q at *
    generalize (a.natAbs : Int).tmod (b.natAbs : Int) = m at *
    unfold wrap64
    congr 2 <;> omega
  · rw [if_neg h, if_pos h']
    have e1 : a.tdiv b = -(a.natAbs : Int).tdiv (b.natAbs : Int) := by
      rw [show a = (a.natAbs : Int) by omega, show b = -(b.natAbs : Int) by omega]
      simp [Int.tdiv_neg]
    have e2 : a.tmod b = (a.natAbs : Int).tmod (b.natAbs : Int) := by
      rw [show a = (a.natAbs : Int) by omega, show b = -(b.natAbs : Int) by omega]
      simp [Int.tmod_neg]
    rw [e1, e2]
    generalize (a.natAbs : Int).tdiv (b.natAbs : Int) = q at *
    generalize (a.natAbs : Int).tmod (b.natAbs : Int) = m at *
    unfold wrap64
    congr 2 <;> omega
  · rw [if_neg h, if_neg h']
    have e1 : a.tdiv b = (a.natAbs : Int).tdiv (b.natAbs : Int) := by
      rw [show a = (a.natAbs : Int) by omega, show b = (b.natAbs : Int) by omega]
      simp
    have e2 : a.tmod b = (a.natAbs : Int).tmod (b.natAbs : Int) := by
      rw [show a = (a.natAbs : Int) by omega, show b = (b.natAbs : Int) by omega]
      simp
    rw [e1, e2]
    generalize (a.natAbs : Int).tdiv (b.natAbs : Int) = q at *
    generalize (a.natAbs : Int).tmod (b.natAbs : Int) = m at *
    unfold wrap64
    congr 2 <;> omega

theorem truth_f (b : Bool) : body_truth.f b = some (if b = true then 1 else 0) := by
  unfold body_truth.f; split <;> rfl

theorem same (s : ByteArray) (a b : Int) (ha0 : -9223372036854775808 ≤ a) (ha1 : a ≤ 9223372036854775807) (hb0 : -9223372036854775808 ≤ b) (hb1 : b ≤ 9223372036854775807) :
    ∃ r, body_Op.f s a b = some r ∧ horariumref05_Op.f s a b = some r := by
  unfold body_Op.f horariumref05_Op.f
  generalize s.toList = l
  by_cases h1 : l = [43]
  · rw [if_pos h1, if_pos h1]
    refine ⟨_, rfl, ?_⟩
    simp only [u64_wrap]
    congr 1
    apply wrap64_congr; omega
  rw [if_neg h1, if_neg h1]
  by_cases h2 : l = [45]
  · rw [if_pos h2, if_pos h2]
    refine ⟨_, rfl, ?_⟩
    simp only [u64_wrap]
    congr 1
    apply wrap64_congr; omega
  rw [if_neg h2, if_neg h2]
  by_cases h3 : l = [42]
  · rw [if_pos h3, if_pos h3]
    refine ⟨_, rfl, ?_⟩
    simp only [u64_wrap]
    congr 1
    exact wrap64_mod_mul a b
  rw [if_neg h3, if_neg h3]
  by_cases h4 : l = [60]
  · rw [if_pos h4, if_pos h4, truth_f]
    refine ⟨_, rfl, ?_⟩
    by_cases h : a < b <;> simp [h]
  rw [if_neg h4, if_neg h4]
  by_cases h5 : l = [61, 61]
  · rw [if_pos h5, if_pos h5, truth_f]
    refine ⟨_, rfl, ?_⟩
    simp only [u64_wrap]
    by_cases h : a = b
    · subst h; simp
    · rw [if_neg (by omega)]; simp [h]
  rw [if_neg h5, if_neg h5]
  by_cases hb : b = 0
  · rw [if_pos hb]
    refine ⟨_, rfl, ?_⟩
    unfold horariumref05_divide.f
    rw [if_pos hb]
    simp
  · rw [if_neg hb, divide_f a b ha0 ha1 hb0 hb1 hb]
    by_cases h6 : l = [47]
    · rw [if_pos h6, if_pos h6]; exact ⟨_, rfl, rfl⟩
    · rw [if_neg h6, if_neg h6]
      by_cases h7 : l = [37]
      · rw [if_pos h7, if_pos h7]; exact ⟨_, rfl, rfl⟩
      · rw [if_neg h7, if_neg h7]; exact ⟨_, rfl, rfl⟩

theorem op_in {s : ByteArray} {a b r : Int} (ha : InR a) (h : body_Op.f s a b = some r) : InR r := by
  have zero : InR 0 := ⟨by omega, by omega⟩
  have one : InR 1 := ⟨by omega, by omega⟩
  have tr : ∀ c : Bool, ((body_truth.f c).bind fun t => some t) = some r → InR r := by
    intro c hc
    rw [truth_f] at hc
    simp only [Option.bind_some, Option.some.injEq] at hc
    subst hc
    split
    · exact one
    · exact zero
  unfold body_Op.f at h
  repeat' split at h
  · cases h; exact wrap64_in _
  · cases h; exact wrap64_in _
  · cases h; exact wrap64_in _
  · exact tr _ h
  · exact tr _ h
  · cases h; exact zero
  · cases h; exact wrap64_in _
  · cases h
    rename_i hb _ _
    have h1 := natAbs_tmod_le a b
    have h2 : a < 0 → a.tmod b ≤ 0 := by
      intro hn
      have e : a.tmod b = -((-a).tmod b) := by rw [Int.neg_tmod]; omega
      have := Int.tmod_nonneg (a := -a) b (by omega)
      omega
    obtain ⟨a0, a1⟩ := ha
    constructor <;> omega
  · cases h; exact zero

/-! ### Values -/
theorem look_l0 (ps : List ByteArray) (vs : List Int) (hp : ps.length ≤ 20) (e : S59) : ∀ (d i : Nat), i + d = ps.length → ∀ k, 2 * d + 2 ≤ k →
    horariumref05_Value.l0 k ps vs i e.f0 e.f1 e.f2 e.f3 e.f4 e.f5 = some (if idxS (ps.drop i) e.f1 i < 0 then 0 else if idxS (ps.drop i) e.f1 i ≥ (vs.length : Int) then 0 else rd vs (idxS (ps.drop i) e.f1 i))
  | 0, i, hi, k, hk => by
    obtain ⟨k, rfl⟩ : ∃ j, k = j + 2 := ⟨k - 2, by omega⟩
    simp only [horariumref05_Value.l0, horariumref05_Value.j1]
    rw [if_neg (by omega), List.drop_of_length_le (by omega)]
    rfl
  | d + 1, i, hi, k, hk => by
    obtain ⟨k, rfl⟩ : ∃ j, k = j + 2 := ⟨k - 2, by omega⟩
    have hlt : i < ps.length := by omega
    have hrd : rdOf ByteArray.empty ps (i : Int) = ps[i] := by simp [rdOf, hlt]
    have ih := look_l0 ps vs hp e d (i + 1) (by omega) k (by omega)
    simp only [horariumref05_Value.l0, horariumref05_Value.j1]
    rw [if_pos (by omega), List.drop_eq_getElem_cons hlt]
    unfold idxS
    by_cases hv : (i : Int) < (vs.length : Int)
    · rw [if_pos (by simpa using hv), if_pos (by omega), if_pos (by omega), hrd]
      by_cases he : e.f1.toList = ps[i].toList
      · rw [if_pos he.symm, if_pos hv, if_pos he, if_neg (by omega), if_neg (by omega)]
      · rw [if_neg (fun h => he h.symm), if_neg he, wrap64_id (n := (i : Int) + 1) (by omega) (by omega)]
        exact ih
    · rw [if_neg (by simpa using hv)]
      split
      · rw [if_neg (by omega), if_pos (by omega)]
      · rcases idxS_range (ps.drop (i + 1)) e.f1 (i + 1) with h | h
        · rw [h]; rfl
        · rw [if_neg (by omega), if_pos (by omega)]
theorem look_in (ps : List ByteArray) (vs : List Int) (hv : ∀ v ∈ vs, InR v) (s : ByteArray) : InR (lookS ps vs s) := by
  have zero : InR 0 := ⟨by omega, by omega⟩
  unfold lookS
  split
  · exact zero
  · split
    · exact zero
    · rename_i h1 h2
      refine hv _ ?_
      have : (idxS ps s 0).toNat < vs.length := by omega
      rw [show rd vs (idxS ps s 0) = vs[(idxS ps s 0).toNat] by simp [rd, this]]
      exact List.getElem_mem _
theorem value_f (ps : List ByteArray) (vs : List Int) (hp : ps.length ≤ 20) (hv : ∀ v ∈ vs, InR v) : ∀ (n : Nat) (e : S59), BdN n e → BOk n e →
    ∃ K r, (∀ k, K ≤ k → evalF (lookS ps vs) k e = some r ∧ valueE k e ps vs = some r) ∧ InR r
  | 0, _, h, _ => h.elim
  | n + 1, e, h, hB => by
    have ih : ∀ j : Int, 0 ≤ j → j < e.f4.length → ∃ K r, (∀ k, K ≤ k → evalF (lookS ps vs) k (rd_T59 e.f4 j) = some r ∧ valueE k (rd_T59 e.f4 j) ps vs = some r) ∧ InR r := by
      intro j hj hi
      obtain ⟨i, rfl⟩ := Int.eq_ofNat_of_zero_le hj
      have hi : i < e.f4.length := by omega
      rw [rd_mem hi]
      exact value_f ps vs hp hv n _ (h.2 _ (List.getElem_mem hi)) (hB.2 _ (List.getElem_mem hi))
    rcases hB.1 with ⟨h0, hl⟩ | ⟨h0, hl⟩ | ⟨h0, ⟨hq, hl⟩ | ⟨hq, hl⟩⟩
    · refine ⟨100, lookS ps vs e.f1, fun k hk => ?_, look_in ps vs hv _⟩
      obtain ⟨k, rfl⟩ : ∃ j, k = j + 1 := ⟨k - 1, by omega⟩
      constructor
      · unfold evalF
        rw [if_pos h0]
      · unfold valueE
        simp only [horariumref05_Value.f]
        rw [if_pos h0]
        exact look_l0 ps vs hp e ps.length 0 (by omega) k (by omega)
    · refine ⟨1, e.f2, fun k hk => ?_, bounds_i64 h.1.2.1⟩
      obtain ⟨k, rfl⟩ : ∃ j, k = j + 1 := ⟨k - 1, by omega⟩
      constructor
      · unfold evalF
        rw [if_neg (by omega), if_neg (fun h => by have := h.1; omega), if_neg (fun h => by have := h.1; omega)]
      · unfold valueE
        simp only [horariumref05_Value.f]
        rw [if_neg (by omega), if_pos h0]
    · obtain ⟨K0, r0, hK0, _⟩ := ih 0 (by omega) (by omega)
      obtain ⟨K1, r1, hK1, i1⟩ := ih 1 (by omega) (by omega)
      obtain ⟨K2, r2, hK2, i2⟩ := ih 2 (by omega) (by omega)
      refine ⟨max K0 (max K1 K2) + 1, if r0 = 0 then r2 else r1, fun k hk => ?_, by split; exact i2; exact i1⟩
      obtain ⟨k, rfl⟩ : ∃ j, k = j + 1 := ⟨k - 1, by omega⟩
      obtain ⟨a0, b0⟩ := hK0 k (by omega)
      obtain ⟨a1, b1⟩ := hK1 k (by omega)
      obtain ⟨a2, b2⟩ := hK2 k (by omega)
      constructor
      · unfold evalF
        rw [if_neg (by omega), if_pos ⟨h0, hq, hl⟩, a0]
        simp only [Option.bind_some]
        split
        · exact a2
        · exact a1
      · unfold valueE at b0 b1 b2 ⊢
        simp only [horariumref05_Value.f]
        rw [if_neg (by omega), if_neg (by omega), if_pos (by omega), b0]
        simp only [Option.bind_some]
        rw [if_pos (by omega), b1]
        simp only [Option.bind_some]
        rw [if_neg (by omega)]
        split
        · rw [if_pos (by omega), b2]; rfl
        · rfl
    · obtain ⟨K0, r0, hK0, i0⟩ := ih 0 (by omega) (by omega)
      obtain ⟨K1, r1, hK1, i1⟩ := ih 1 (by omega) (by omega)
      obtain ⟨r, e1, e2⟩ := same e.f1 r0 r1 i0.1 i0.2 i1.1 i1.2
      refine ⟨max K0 K1 + 1, r, fun k hk => ?_, op_in i0 e1⟩
      obtain ⟨k, rfl⟩ : ∃ j, k = j + 1 := ⟨k - 1, by omega⟩
      obtain ⟨a0, b0⟩ := hK0 k (by omega)
      obtain ⟨a1, b1⟩ := hK1 k (by omega)
      constructor
      · unfold evalF
        rw [if_neg (by omega), if_neg (fun h => hq h.2.1), if_pos ⟨h0, hl⟩, a0, a1]
        exact e1
      · unfold valueE at b0 b1 ⊢
        simp only [horariumref05_Value.f]
        rw [if_neg (by omega), if_neg (by omega), if_pos (by omega), b0]
        simp only [Option.bind_some]
        rw [if_pos (by omega), b1]
        simp only [Option.bind_some]
        rw [if_pos (by omega), e2]
        rfl

/-! ### The law -/
theorem law_l0 (e : S59) (ps : List ByteArray) (vs : List Int) (l : List S59) (hl : l.length ≤ 100) (h11 : ∀ y ∈ l, y.f0 = 11) (K : Nat) (r : Int) (hK : ∀ k, K ≤ k → evalF (lookS ps vs) k e = some r ∧ valueE k e ps vs = some r ∧ countE k e = some (l.length : Int)) :
    ∀ (d i : Nat), i + d = l.length → ∀ k, K + d + 1 ≤ k → horariumlaw05_BodyValues.l0 k ps vs l i e.f0 e.f1 e.f2 e.f3 e.f4 e.f5 = some true
  | 0, i, hi, k, hk => by
    obtain ⟨k, rfl⟩ : ∃ j, k = j + 1 := ⟨k - 1, by omega⟩
    obtain ⟨a, b, c⟩ := hK k (by omega)
    simp only [horariumlaw05_BodyValues.l0]
    unfold valueE at b
    unfold countE at c
    rw [if_neg (by omega), show body_Eval.f k (⟨#[]⟩ : ByteArray) ps 0 e.f0 e.f1 e.f2 e.f3 e.f4 e.f5 0 vs = some r by unfold body_Eval.f; rw [eta59]; exact a, b, c]
    simp
  | d + 1, i, hi, k, hk => by
    obtain ⟨k, rfl⟩ : ∃ j, k = j + 1 := ⟨k - 1, by omega⟩
    have hlt : i < l.length := by omega
    simp only [horariumlaw05_BodyValues.l0]
    rw [if_pos (by omega), if_pos (by omega), rd_mem hlt, if_pos (h11 _ (List.getElem_mem hlt)), wrap64_id (n := (i : Int) + 1) (by omega) (by omega)]
    exact law_l0 e ps vs l hl h11 K r hK d (i + 1) (by omega) k (by omega)
theorem BodyValues (n : Nat) (e : S59) (h : BdN n e) (ps : List ByteArray) (vs : List Int) (hv : ∀ v ∈ vs, InR v) : ∃ k, horariumlaw05_BodyValues.f k e.f0 e.f1 e.f2 e.f3 e.f4 e.f5 ps vs = some true := by
  have aw : horariumlaw05_awake.f = some true := by decide +kernel
  have jt : ∀ k, horariumlaw05_BodyValues.j0 (k + 1) ps vs true e.f0 e.f1 e.f2 e.f3 e.f4 e.f5 = some true := by
    intro k
    simp only [horariumlaw05_BodyValues.j0]
    rw [if_pos trivial, aw]
    rfl
  obtain ⟨K1, m, hm, _, _, hc⟩ := size_f n e h 100 (by omega) (by omega)
  obtain ⟨K2, q, hq⟩ := depth_f n e h 30
  obtain ⟨K3, b, hb, hb2⟩ := body_f n e h
  have main : ∀ k, K1 ≤ k → K2 ≤ k → K3 ≤ k → (m ≤ 100 → b = true → ps.length ≤ 20 → vs.length ≤ 20 → horariumlaw05_BodyValues.j0 k ps vs false e.f0 e.f1 e.f2 e.f3 e.f4 e.f5 = some true) → 1 ≤ k → horariumlaw05_BodyValues.f k e.f0 e.f1 e.f2 e.f3 e.f4 e.f5 ps vs = some true := by
    intro k h1 h2 h3 hf h0
    obtain ⟨j, rfl⟩ : ∃ j, k = j + 1 := ⟨k - 1, by omega⟩
    have a1 := hm _ h1
    have a2 := hq _ h2
    have a3 := hb _ h3
    unfold sizeE at a1
    unfold depthE at a2
    unfold bodyE at a3
    unfold horariumlaw05_BodyValues.f
    rw [aw]
    simp only [Option.bind_some, if_true, a1, a2, a3]
    by_cases c1 : m > 100
    · rw [if_pos c1]; exact jt j
    rw [if_neg c1]
    by_cases c2 : q > 25
    · rw [if_pos c2]; exact jt j
    rw [if_neg c2]
    by_cases c3 : b = true
    · rw [if_pos c3]
      by_cases c4 : (ps.length : Int) > 20
      · rw [if_pos c4]; exact jt j
      rw [if_neg c4]
      by_cases c5 : (vs.length : Int) > 20
      · rw [decide_eq_true c5]; exact jt j
      · rw [decide_eq_false c5]; exact hf (by omega) c3 (by omega) (by omega)
    · rw [if_neg c3]; exact jt j
  by_cases hall : m ≤ 100 ∧ b = true ∧ ps.length ≤ 20
  · obtain ⟨c1, c3, c4⟩ := hall
    have hB := hb2 c3
    have hn : cnt e ≤ 100 := by have := hc c1; omega
    obtain ⟨K4, l, hl, l11, ll⟩ := names_f n e h hB hn
    obtain ⟨K5, r, hr, _⟩ := value_f ps vs c4 hv n e h hB
    refine ⟨max (max K1 K2) (max K3 (max K4 K5)) + 300, main _ (by omega) (by omega) (by omega) (fun _ _ _ _ => ?_) (by omega)⟩
    have hM : K4 ≤ max (max K1 K2) (max K3 (max K4 K5)) ∧ K5 ≤ max (max K1 K2) (max K3 (max K4 K5)) := by omega
    generalize max (max K1 K2) (max K3 (max K4 K5)) = M at *
    simp only [horariumlaw05_BodyValues.j0]
    have a4 := (hl (M + 299) (by omega)).1
    unfold namesE at a4
    rw [if_neg (by simp), a4]
    simp only [Option.bind_some]
    exact law_l0 e ps vs l (by omega) l11 (max K4 K5) r (fun k hk => ⟨(hr k (by omega)).1, (hr k (by omega)).2, (hl k (by omega)).2⟩) l.length 0 (by omega) _ (by omega)
  · exact ⟨max (max K1 K2) K3 + 1, main _ (by omega) (by omega) (by omega) (fun c1 c3 c4 _ => absurd ⟨c1, c3, c4⟩ hall) (by omega)⟩

/-! ### The arguments -/
theorem op59 (n : Nat) : OpN Try.prog 59 k59 (fun x => ∃ n, BdN n x) n := by
  refine op_fix (G := BdN) (fun n ih => ?_) n
  exact (op_struct (f := fun x : S59 => (x.f0, x.f1, x.f2, x.f3, x.f4, x.f5)) (g := fun y => ⟨y.1, y.2.1, y.2.2.1, y.2.2.2.1, y.2.2.2.2.1, y.2.2.2.2.2⟩) (fun _ => rfl) Try.underlying59
    (fs_cons (o := 0) (o' := 1) rfl (by kernel_rfl) (op_int Try.underlying3 n) (fs_cons (o := 1) (o' := 2) rfl (by kernel_rfl) (op_string Try.underlying9 n) (fs_cons (o := 2) (o' := 3) rfl (by kernel_rfl) (op_int Try.underlying2 n)
      (fs_cons (o := 3) (o' := 4) rfl (by kernel_rfl) (op_int Try.underlying2 n) (fs_cons (o := 4) (o' := 5) rfl (by kernel_rfl) ((op_slice (q := 59) Try.underlying57 (by rw [sz59]; kernel_rfl) ih).down (by omega)) (fs_last rfl (by kernel_rfl) (op_int Try.underlying3 n)))))))).imp
    fun x hx => ⟨⟨hx.2.1, hx.2.2.1, hx.2.2.2.2.1.1⟩, hx.2.2.2.2.1.2⟩
theorem walk (w : World) (x : S59) (cs : List Value) (hK : k59.K w x cs) (hB : ∃ n, BdN n x) (A1 : Option Addr) (c1 : Nat) (l1 : List ByteArray) (hc1 : l1.length ≤ c1) (hC1 : Kd.C Kd.string w A1 l1.length l1) (_ : l1.length ≤ maxLen) (_ : ∀ s ∈ l1, s.size ≤ maxLen)
    (A2 : Option Addr) (c2 : Nat) (l2 : List Int) (hc2 : l2.length ≤ c2) (hC2 : Kd.C (Kd.int .i64) w A2 l2.length l2) (_ : l2.length ≤ maxLen) (hw : ∀ v ∈ l2, (Lit.int .i64 v).wf = true) :
    Calls Try.prog 13 #[.agg cs.toArray, .slice A1 l1.length c1, .slice A2 l2.length c2] w fun e w' => e = .returned (.bool true) ∧ Below w.heap.size w w' := by
  obtain ⟨n, hn⟩ := hB
  obtain ⟨A4, c4, rfl, h4, hC4⟩ := k59_open hK
  obtain ⟨k, hk⟩ := BodyValues n x hn l1 l2 fun v hv => bounds_i64 (hw v hv)
  exact horariumlaw05_BodyValues.calls k _ _ _ _ A4 c4 _ _ A1 c1 l1 A2 c2 l2 true w hC4 h4 hC1 hc1 hC2 hc2 hk
end Go.Proofs.Ytkiaglpkijhbmaa.Pure
