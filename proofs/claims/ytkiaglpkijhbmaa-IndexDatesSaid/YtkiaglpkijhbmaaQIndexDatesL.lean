import Derived.Deep.LoopGhost
import Derived.Lib.Hide
import Derived.LoopTactic
import Derived.Test.YtkiaglpkijhbmaaMath
import Derived.Test.YtkiaglpkijhbmaaRIndexDatesx1
/-! index.Later: slices.ContainsFunc over a literal, walked by hand. -/
namespace Go.Proofs.Ytkiaglpkijhbmaa.PIndexDates
open Go.RowKit Go.Proofs.YtkiaglpkijhbmaaW.PrintWords Go.Proofs.YtkiaglpkijhbmaaW.PrintMore Go.Proofs.Ytkiaglpkijhbmaa.Math

def laterO (o : S56) : Bool := decide (o.f0 = 6 ∨ (o.f0 = 5 ∧ o.f1 ≠ 0))
theorem later1_f (o : S56) : index_Later_1.f o.f0 o.f1 o.f2 = some (laterO o) := by
  unfold index_Later_1.f laterO
  (repeat' split) <;> (congr 1; rw [Bool.eq_iff_iff]; simp; try omega)
theorem later1_calls (o : S56) (w : World) : Calls Try.prog 60 #[.agg #[.int .i64 o.f0, .int .i64 o.f1, .int .i64 o.f2]] w fun e w' => e = .returned (.bool (laterO o)) ∧ Below w.heap.size w w' :=
  index_Later_1.calls o.f0 o.f1 o.f2 (laterO o) w (later1_f o)

/-- What IndexFunc tells. -/
def Idx (l : List S56) (w : World) (e : Ending) (w' : World) : Prop := ∃ i : Int, e = .returned (.int .i64 i) ∧ decide (0 ≤ i) = l.any laterO ∧ Below w.heap.size w w'

set_option maxRecDepth 100000 in
set_option maxHeartbeats 2000000 in
theorem idx_calls (A : Option Addr) (cap : Nat) (zs : List S56) (w : World) (hC : Kd.C k56 w A zs.length zs) :
    Calls Try.prog 67 #[.slice A zs.length cap, .func (.func 60) #[] #[]] w (Idx zs w) := by
  have hlen := hC.2.1
  go_enter Try.func67, Try.ntmps67
  go_wp2
  go_loopw [5, 8] (fun _ v8 wr => ∃ k : Nat, k ≤ zs.length ∧ v8 = .int .i64 k ∧ (zs.take k).any laterO = false ∧ Below w.heap.size w wr)
    (fun _ v8 _ => zs.length - (intOf v8).toNat)
  case atStart => exact ⟨0, Nat.zero_le _, rfl, by simp, Below.refl _ _⟩
  case round =>
    obtain ⟨k, hk, rfl, hno, hB⟩ := hrel
    by_cases hlt : k < zs.length
    · obtain ⟨ad, rfl, hx0, hx1, hx2⟩ := at_T56 hC (k : Int) (by omega) (by omega)
      have hrd : rd_T56 zs (k : Int) = zs[k] := by simp [rd_T56, hlt]
      rw [hrd] at hx0 hx1 hx2
      simp only [Int.toNat_natCast] at hx0 hx1 hx2
      replace hx0 := (hB.cell (World.block_lt_of_cell? w _ hx0)).trans hx0
      replace hx1 := (hB.cell (World.block_lt_of_cell? w _ hx1)).trans hx1
      replace hx2 := (hB.cell (World.block_lt_of_cell? w _ hx2)).trans hx2
      have hz : (zs.take (k + 1)).any laterO = laterO zs[k] := by
        rw [List.take_succ_eq_append_getElem hlt, List.any_append, hno]
        simp
      have hall : laterO zs[k] = true → zs.any laterO = true := fun h => List.any_eq_true.2 ⟨_, List.getElem_mem hlt, h⟩
      have HZ := Aside0.mk (And.intro hz hall)
      have HNO := Aside0.mk hno
      clear hz hall hno hrd
      generalize zs[k] = o at *
      have d0 : decide ((k : Int) < (zs.length : Int)) = true := decide_eq_true (by omega)
      cases hp : laterO o with
      | true =>
        have HP := Aside0.mk hp
        have hcall := Aside0.mk (later1_calls o wr)
        rw [hp] at hcall
        clear hp
        go_wp2_with (go_at_call 60; refine hcall.out.mono ?_; rintro e w' ⟨rfl, hb⟩)
        go_ret
        refine ⟨(k : Int), rfl, ?_, hB.trans (hb.mono hB.size)⟩
        rw [HZ.out.2 HP.out]
        simp
      | false =>
        have HP := Aside0.mk hp
        have hcall := Aside0.mk (later1_calls o wr)
        rw [hp] at hcall
        clear hp
        go_wp2_with (go_at_call 60; refine hcall.out.mono ?_; rintro e w' ⟨rfl, hb⟩)
        go_roundw
        case rel => exact ⟨k + 1, by omega, by go_num, by rw [HZ.out.1, HP.out], hB.trans (hb.mono hB.size)⟩
        case measure => simp [intOf]; omega
    · have hk' : k = zs.length := by omega
      have hany : zs.any laterO = false := by
        rw [hk', List.take_of_length_le (Nat.le_refl _)] at hno
        exact hno
      have HA := Aside0.mk hany
      have d0 : decide ((k : Int) < (zs.length : Int)) = false := decide_eq_false (by omega)
      clear hno hany hk'
      go_wp2
      go_ret
      exact ⟨-1, rfl, by rw [HA.out]; decide, hB⟩

set_option maxRecDepth 100000 in
set_option maxHeartbeats 2000000 in
theorem contains_calls (A : Option Addr) (cap : Nat) (zs : List S56) (w : World) (hC : Kd.C k56 w A zs.length zs) :
    Calls Try.prog 59 #[.slice A zs.length cap, .func (.func 60) #[] #[]] w fun e w' => e = .returned (.bool (zs.any laterO)) ∧ Below w.heap.size w w' := by
  go_enter Try.func59, Try.ntmps59
  go_wp2_with (go_at_call 67; refine (idx_calls A cap zs w hC).mono ?_; rintro e w' ⟨i, rfl, hi, hb⟩; have HI := Aside0.mk hi; clear hi)
  go_ret
  exact ⟨congrArg (fun b => Ending.returned (.bool b)) HI.out, hb⟩

def index_Later.f (l0 : List S56) : Option Bool := some (l0.any laterO)
theorem index_Later.calls (A0 : Option Addr) (c0 : Nat) (l0 : List S56) (r : Bool) (w : World) (hr0 : Kd.C k56 w A0 l0.length l0) (_ : l0.length ≤ c0) (h : index_Later.f l0 = some r) :
    Calls Try.prog 45 #[.slice A0 l0.length c0] w fun e w' => e = .returned (.bool r) ∧ Below w.heap.size w w' := by
  have hr : l0.any laterO = r := Option.some.inj h
  subst hr
  have hc := Aside0.mk (contains_calls A0 c0 l0 w hr0)
  clear h hr0
  go_enter Try.func45, Try.ntmps45
  go_wp2_with (go_at_call 59; refine hc.out.mono ?_; rintro e w' ⟨rfl, hb⟩)
  go_ret
  exact ⟨rfl, hb⟩
end Go.Proofs.Ytkiaglpkijhbmaa.PIndexDates
