/- Of all clocks the dates are told (ClockDates): for all clocks, and numbers; no condition. -/
import Derived.Test.YtkiaglpkijhbmaaMath
import Derived.Test.YtkiaglpkijhbmaaOpenKd
import Derived.Test.YtkiaglpkijhbmaaPClockDatesx2
namespace Go.Proofs.Ytkiaglpkijhbmaa.Pure
open Go.RowKit Go.Proofs.Ytkiaglpkijhbmaa.PClockDates Go.Proofs.YtkiaglpkijhbmaaW.PrintWords Go.Proofs.YtkiaglpkijhbmaaW.PrintLast Go.Proofs.Ytkiaglpkijhbmaa.Math Go.Proofs.Ytkiaglpkijhbmaa.OpenKd

theorem awake_f : horariumlaw02_awake.f 10 = some true := by decide +kernel
theorem awake_k (k : Nat) (hk : 10 ≤ k) : horariumlaw02_awake.f k = some true := at_rounds horariumlaw02_awake.mono hk awake_f
theorem right_f (p f : Int) : clock_Right.f p f = some (decide (1 ≤ p ∧ p ≤ 2000 ∧ 0 ≤ f ∧ f ≤ 2000)) := by
  unfold clock_Right.f
  (repeat' split) <;> (congr 1; rw [Bool.eq_iff_iff]; simp; try omega)
theorem refright_f (p f : Int) : horariumref02_Right.f p f = some (decide (1 ≤ p ∧ p ≤ 2000 ∧ 0 ≤ f ∧ f ≤ 2000)) := by
  unfold horariumref02_Right.f
  (repeat' split) <;> (congr 1; rw [Bool.eq_iff_iff]; simp; try omega)
theorem ClockDates (p f n : Int) : ∃ k, horariumlaw02_ClockDates.f k p f n = some true := by
  refine ⟨20, ?_⟩
  unfold horariumlaw02_ClockDates.f clock_Date.f
  rw [right_f, refright_f]
  simp only [Option.bind_some, horariumlaw02_ClockDates.j0, awake_k _ (show 10 ≤ 19 by omega)]
  generalize decide (1 ≤ p ∧ p ≤ 2000 ∧ 0 ≤ f ∧ f ≤ 2000) = b
  cases b
  · simp
  · simp only [if_true]
    by_cases h0 : n < 0
    · simp [h0]
    · by_cases h1 : n > 1099511627776
      · simp [h0, h1]
      · simp [h0, h1]

/-- A clock's two cells. -/
def kc : Kd (Int × Int) := Kd.iso (Kd.pair (Kd.int .i64) (Kd.int .i64)) (fun x => x)
theorem opc (n : Nat) : OpN Try.prog 48 kc (fun _ => True) n := by
  cases n with
  | zero => exact op_zero _ _ _ _
  | succ n => exact (op_struct (f := fun x : Int × Int => x) (g := fun y => y) (fun _ => rfl) Try.underlying48 (fs_cons (o := 0) (o' := 1) rfl (by kernel_rfl) (op_int Try.underlying2 n) (fs_last rfl (by kernel_rfl) (op_int Try.underlying2 n)))).imp fun _ _ => trivial
theorem kc_open {w : World} {x : Int × Int} {cs : List Value} (h : kc.K w x cs) : cs = [.int .i64 x.1, .int .i64 x.2] := by
  obtain ⟨_, _, rfl, rfl, rfl⟩ := h
  rfl

theorem walk (w : World) (x : Int × Int) (cs : List Value) (hK : kc.K w x cs) (_ : True) (n : Int) (_ : (Lit.int .i64 n).wf = true) :
    Calls Try.prog 11 #[.agg cs.toArray, .int .i64 n] w fun e w' => e = .returned (.bool true) ∧ Below w.heap.size w w' := by
  obtain rfl := kc_open hK
  obtain ⟨k, hk⟩ := ClockDates x.1 x.2 n
  exact horariumlaw02_ClockDates.calls k x.1 x.2 n true w hk
end Go.Proofs.Ytkiaglpkijhbmaa.Pure
