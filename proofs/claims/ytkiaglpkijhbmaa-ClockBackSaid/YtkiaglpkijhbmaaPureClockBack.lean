/- As often, and then each of as many, is the same clock; so is a tail behind a cons, and a cons behind a tail, where they may be (ClockBack): for all clocks, and numbers; no condition. -/
import Derived.Test.YtkiaglpkijhbmaaOpenKd
import Derived.Test.YtkiaglpkijhbmaaCClockBack
import Derived.Test.YtkiaglpkijhbmaaQClockBack
namespace Go.Proofs.Ytkiaglpkijhbmaa.Pure
open Go.RowKit Go.Proofs.Ytkiaglpkijhbmaa.PClockBack Go.Proofs.YtkiaglpkijhbmaaW.PrintWords Go.Proofs.YtkiaglpkijhbmaaW.PrintLast Go.Proofs.Ytkiaglpkijhbmaa.Math Go.Proofs.Ytkiaglpkijhbmaa.OpenKd Go.Proofs.Ytkiaglpkijhbmaa.CClockBack

theorem awake_f : horariumlaw02_awake.f 10 = some true := by decide +kernel
theorem awake_k (k : Nat) (hk : 10 ≤ k) : horariumlaw02_awake.f k = some true := at_rounds horariumlaw02_awake.mono hk awake_f

/-- What comes back. -/
def Same (p f : Int) (t : Int × Int × Int) : Prop := t.2.2 = 0 → t.1 = p ∧ t.2.1 = f
theorem over_under (p f n : Int) : Same p f (allS p f [⟨3, n, 0⟩, ⟨4, n, 0⟩]) := by
  simp only [allS]
  unfold applyS
  by_cases hr : rightB p f = true
  · rw [if_pos hr]
    by_cases hf : factorS 3 n 0 = 0
    · rw [if_pos hf, if_pos rfl]
      have hn : 1 ≤ n := by
        unfold factorS at hf
        rw [if_neg (by omega), if_pos (by omega)] at hf
        split at hf <;> omega
      by_cases hd : p % n = 0
      · have hm : p / n * n = p := Int.ediv_mul_cancel (Int.dvd_of_emod_eq_zero hd)
        simp only [fin, hd, beq_self_eq_true, if_true]
        by_cases h1 : rightB (p / n) f = true
        · simp only [h1, if_true]
          by_cases h4 : factorS 4 n 0 = 0
          · simp [h4, hm, hr, Same]
          · simp [h4, Same]
        · simp [h1, Same]
      · simp [fin, hd, Same]
    · simp [hf, Same]
  · simp [hr, Same]
theorem cons_tail (p f : Int) : Same p f (allS p f [⟨8, 0, 0⟩, ⟨7, 0, 0⟩]) := by
  simp only [allS]
  unfold applyS
  by_cases hr : rightB p f = true
  · have e8 : factorS 8 0 0 = 0 := by decide
    have e7 : factorS 7 0 0 = 0 := by decide
    simp only [hr, if_true, e8, e7]
    simp only [fin, show ((8 : Int) = 3) = False by simp, show ((8 : Int) = 4) = False by simp, show ((8 : Int) = 5) = False by simp, show ((8 : Int) = 7) = False by simp, show ((7 : Int) = 3) = False by simp, show ((7 : Int) = 4) = False by simp, show ((7 : Int) = 5) = False by simp, if_false, if_true]
    by_cases hge : f ≥ p
    · simp only [hge, decide_true, if_true]
      by_cases h1 : rightB p (f - p) = true
      · simp [h1, hr, Same]
      · simp [h1, Same]
    · simp [hge, Same]
  · simp [hr, Same]
theorem tail_cons (p f : Int) : Same p f (allS p f [⟨7, 0, 0⟩, ⟨8, 0, 0⟩]) := by
  simp only [allS]
  unfold applyS
  by_cases hr : rightB p f = true
  · have hb := rightB_iff.1 hr
    have e8 : factorS 8 0 0 = 0 := by decide
    have e7 : factorS 7 0 0 = 0 := by decide
    simp only [hr, if_true, e8, e7]
    simp only [fin, show ((8 : Int) = 3) = False by simp, show ((8 : Int) = 4) = False by simp, show ((8 : Int) = 5) = False by simp, show ((8 : Int) = 7) = False by simp, show ((7 : Int) = 3) = False by simp, show ((7 : Int) = 4) = False by simp, show ((7 : Int) = 5) = False by simp, if_false, if_true]
    by_cases h1 : rightB p (f + p) = true
    · have hge : f + p ≥ p := by omega
      have e : f + p - p = f := by omega
      simp [h1, hr, hge, e, Same]
    · simp [h1, Same]
  · simp [hr, Same]

theorem ClockBack (p f n : Int) : ∃ k, horariumlaw02_ClockBack.f k p f n = some true := by
  refine ⟨20, ?_⟩
  unfold horariumlaw02_ClockBack.f
  rw [all_f _ (by simp) _ _ _ (by simp), all_f _ (by simp) _ _ _ (by simp), all_f _ (by simp) _ _ _ (by simp), awake_k _ (by omega)]
  simp only [Option.bind_some, if_true]
  by_cases hr : rightB p f = true
  · simp only [hr, if_true]
    have h1 := over_under p f n
    have h2 := cons_tail p f
    have h3 := tail_cons p f
    generalize allS p f [⟨3, n, 0⟩, ⟨4, n, 0⟩] = t1 at *
    generalize allS p f [⟨8, 0, 0⟩, ⟨7, 0, 0⟩] = t2 at *
    generalize allS p f [⟨7, 0, 0⟩, ⟨8, 0, 0⟩] = t3 at *
    unfold Same at *
    by_cases e1 : t1.2.2 = 0
    · have h1' := h1 e1
      by_cases e2 : t2.2.2 = 0
      · have h2' := h2 e2
        by_cases e3 : t3.2.2 = 0
        · have h3' := h3 e3
          simp [e1, e2, e3, h1', h2', h3']
        · simp [e1, e2, e3, h1', h2']
      · by_cases e3 : t3.2.2 = 0
        · have h3' := h3 e3
          simp [e1, e2, e3, h1', h3']
        · simp [e1, e2, e3, h1']
    · by_cases e2 : t2.2.2 = 0
      · have h2' := h2 e2
        by_cases e3 : t3.2.2 = 0
        · have h3' := h3 e3
          simp [e1, e2, e3, h2', h3']
        · simp [e1, e2, e3, h2']
      · by_cases e3 : t3.2.2 = 0
        · have h3' := h3 e3
          simp [e1, e2, e3, h3']
        · simp [e1, e2, e3]
  · simp [hr]

/-- A clock's two cells. -/
def kc : Kd (Int × Int) := Kd.iso (Kd.pair (Kd.int .i64) (Kd.int .i64)) (fun x => x)
theorem opc (n : Nat) : OpN Try.prog 48 kc (fun _ => True) n := by
  cases n with
  | zero => exact op_zero _ _ _ _
  | succ n => exact (op_struct (f := fun x : Int × Int => x) (g := fun y => y) (fun _ => rfl) Try.underlying48 (fs_cons (o := 0) (o' := 1) rfl (by kernel_rfl) (op_int Try.underlying2 n) (fs_last rfl (by kernel_rfl) (op_int Try.underlying2 n)))).imp fun _ _ => trivial
theorem kc_open {w : World} {x : Int × Int} {cs : List Value} (h : kc.K w x cs) : cs = [.int .i64 x.1, .int .i64 x.2] := by
  obtain ⟨_, _, rfl, rfl, rfl⟩ := h
  rfl
theorem walk (w : World) (x : Int × Int) (cs : List Value) (hK : kc.K w x cs) (_ : True) (n : Int) (_ : (Lit.int .i64 n).wf = true) :
    Calls Try.prog 12 #[.agg cs.toArray, .int .i64 n] w fun e w' => e = .returned (.bool true) ∧ Below w.heap.size w w' := by
  obtain rfl := kc_open hK
  obtain ⟨k, hk⟩ := ClockBack x.1 x.2 n
  exact horariumlaw02_ClockBack.calls k x.1 x.2 n true w hk rfl
end Go.Proofs.Ytkiaglpkijhbmaa.Pure
