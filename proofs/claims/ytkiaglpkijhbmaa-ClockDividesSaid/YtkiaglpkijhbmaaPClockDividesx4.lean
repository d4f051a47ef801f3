-- PRINTED BY print.sh 35421559b90ae4d0a3588c463048766b98c2df88dd9212a6774a882060cdf62d: not written by this session
import Derived.Test.YtkiaglpkijhbmaaPClockDividesx0
import Derived.Test.YtkiaglpkijhbmaaPClockDividesx1
import Derived.Test.YtkiaglpkijhbmaaPClockDividesx2
import Derived.Test.YtkiaglpkijhbmaaPClockDividesx3
namespace Go.Proofs.Ytkiaglpkijhbmaa.PClockDivides
open Go.RowKit Go.Proofs.YtkiaglpkijhbmaaW.PrintWords Go.Proofs.YtkiaglpkijhbmaaW.PrintLast Go.Proofs.YtkiaglpkijhbmaaW.PrintMore
attribute [local go_sem] max2_int min2_int max_two min_two max_three min_three max_four min_four   -- for this text's walks alone
set_option linter.unusedVariables false
set_option linter.unusedSimpArgs false

/-! ### horariumlaw02_ClockDivides: function 14 -/
mutual
def horariumlaw02_ClockDivides.j0 : Nat → List (S48) → Bool → Option (Bool)
  | 0, _, _ => none
  | k + 1, x0, x21 => if x21 = true then ((horariumlaw02_awake.f k).bind fun t129 => (some t129)) else ((clock_Hyper.f k x0).bind fun bt130 => (if bt130.2 = 0 then (horariumlaw02_ClockDivides.l0 k x0 bt130.1 0) else (some (bt130.1 == 0))))
def horariumlaw02_ClockDivides.l0 : Nat → List (S48) → Int → Int → Option (Bool)
  | 0, _, _, _ => none
  | k + 1, x0, x3, x5 => if x5 < (x0.length : Int) then (if 0 ≤ x5 then ((horariumref02_Right.f ((rd_T48 x0 x5).f0) ((rd_T48 x0 x5).f1)).bind fun t133 => (if t133 = true then (if ((rd_T48 x0 x5).f0) = 0 then (none) else (if (Int.tmod x3 ((rd_T48 x0 x5).f0)) = 0 then (horariumlaw02_ClockDivides.l0 k x0 x3 (wrap64 (x5 + 1))) else (some false))) else (some false))) else (none)) else (if 0 ≤ (wrap64 ((x0.length : Int) - 1)) then (if (wrap64 ((x0.length : Int) - 1)) ≤ (x0.length : Int) then ((clock_Hyper.f k (x0.take ((wrap64 ((x0.length : Int) - 1)) : Int).toNat)).bind fun bt139 => (if (wrap64 ((x0.length : Int) - 1)) < (x0.length : Int) then ((clock_Hyper.f k (([(⟨mx bt139.1 1, 0⟩ : S48), (⟨(rd_T48 x0 (wrap64 ((x0.length : Int) - 1))).f0, (rd_T48 x0 (wrap64 ((x0.length : Int) - 1))).f1⟩ : S48)] : List (S48)))).bind fun bt145 => (if bt139.2 = 0 then (if bt145.2 = 0 then (some (bt145.1 == x3)) else (some false)) else (some false))) else (none))) else (none)) else (none))
end
def horariumlaw02_ClockDivides.f (k : Nat) (l0 : List (S48)) : Option (Bool) := (horariumlaw02_awake.f k).bind fun t128 => (if t128 = true then (if (l0.length : Int) > 20 then (horariumlaw02_ClockDivides.j0 k l0 true) else (horariumlaw02_ClockDivides.j0 k l0 ((l0.length : Int) == 0))) else (horariumlaw02_ClockDivides.j0 k l0 true))
theorem horariumlaw02_ClockDivides.mono_l : ∀ k, (∀ y0 y1, LeO (horariumlaw02_ClockDivides.j0 k y0 y1) (horariumlaw02_ClockDivides.j0 (k + 1) y0 y1)) ∧ (∀ y0 y1 y2, LeO (horariumlaw02_ClockDivides.l0 k y0 y1 y2) (horariumlaw02_ClockDivides.l0 (k + 1) y0 y1 y2))
  | 0 => ⟨fun _ _ r h => by simp [horariumlaw02_ClockDivides.j0] at h, fun _ _ _ r h => by simp [horariumlaw02_ClockDivides.l0] at h⟩
  | k + 1 => by
    obtain ⟨ih0, ih1⟩ := horariumlaw02_ClockDivides.mono_l k
    refine ⟨?_, ?_⟩
    · intro y0 y1
      unfold horariumlaw02_ClockDivides.j0
      repeat' first
      | (with_reducible exact ih0 _ _)
      | (with_reducible exact ih1 _ _ _)
      | (with_reducible exact clock_Hyper.mono _ _)
      | (with_reducible exact horariumlaw02_awake.mono _)
      | (with_reducible exact LeO.refl _)
      | (with_reducible exact LeO.none _)
      | (with_reducible refine LeO.ite ?_ ?_)
      | (with_reducible refine LeO.bind ?_ (fun _ => ?_))
      | exact ih0 _ _
      | exact ih1 _ _ _
      | exact clock_Hyper.mono _ _
      | exact horariumlaw02_awake.mono _
      | exact LeO.none _
      | refine LeO.ite ?_ ?_
      | refine LeO.bind ?_ (fun _ => ?_)
    · intro y0 y1 y2
      unfold horariumlaw02_ClockDivides.l0
      repeat' first
      | (with_reducible exact ih0 _ _)
      | (with_reducible exact ih1 _ _ _)
      | (with_reducible exact clock_Hyper.mono _ _)
      | (with_reducible exact horariumlaw02_awake.mono _)
      | (with_reducible exact LeO.refl _)
      | (with_reducible exact LeO.none _)
      | (with_reducible refine LeO.ite ?_ ?_)
      | (with_reducible refine LeO.bind ?_ (fun _ => ?_))
      | exact ih0 _ _
      | exact ih1 _ _ _
      | exact clock_Hyper.mono _ _
      | exact horariumlaw02_awake.mono _
      | exact LeO.none _
      | refine LeO.ite ?_ ?_
      | refine LeO.bind ?_ (fun _ => ?_)
theorem horariumlaw02_ClockDivides.mono : ∀ a0 k, LeO (horariumlaw02_ClockDivides.f k a0) (horariumlaw02_ClockDivides.f (k + 1) a0) := by
  intro a0 k
  obtain ⟨ih0, ih1⟩ := horariumlaw02_ClockDivides.mono_l k
  unfold horariumlaw02_ClockDivides.f
  repeat' first
      | (with_reducible exact ih0 _ _)
      | (with_reducible exact ih1 _ _ _)
      | (with_reducible exact clock_Hyper.mono _ _)
      | (with_reducible exact horariumlaw02_awake.mono _)
      | (with_reducible exact LeO.refl _)
      | (with_reducible exact LeO.none _)
      | (with_reducible refine LeO.ite ?_ ?_)
      | (with_reducible refine LeO.bind ?_ (fun _ => ?_))
      | exact ih0 _ _
      | exact ih1 _ _ _
      | exact clock_Hyper.mono _ _
      | exact horariumlaw02_awake.mono _
      | exact LeO.none _
      | refine LeO.ite ?_ ?_
      | refine LeO.bind ?_ (fun _ => ?_)
set_option maxHeartbeats 8000000 in
set_option maxRecDepth 100000 in
theorem horariumlaw02_ClockDivides.calls (k : Nat) (A0 : Option Addr) (c0 : Nat) (l0 : List (S48)) (r : Bool) (w : World) (hr0 : Kd.C k48 w A0 l0.length l0) (hc0 : l0.length ≤ c0) (h : horariumlaw02_ClockDivides.f k l0 = some r) :
    Calls Try.prog 14 #[.slice A0 l0.length c0] w fun e w' => e = .returned (.bool r) ∧ Below w.heap.size w w' := by
  have hu48 := Try.underlying48
  have HR0 := Aside0.mk hr0
  have HC0 := Aside0.mk hc0
  clear hr0 hc0
  have HB := Aside0.mk (Below.refl w.heap.size w)
  have H : ((horariumlaw02_awake.f k).bind fun t128 => (if t128 = true then (if (l0.length : Int) > 20 then (horariumlaw02_ClockDivides.j0 k l0 true) else (horariumlaw02_ClockDivides.j0 k l0 ((l0.length : Int) == 0))) else (horariumlaw02_ClockDivides.j0 k l0 true))) = some r := h
  clear h
  have HC2 := Aside0.mk H
  clear H
  go_enter Try.func14, Try.ntmps14
  go_upto_region 1 with (fail)
  go_cut [21] (fun v21 wc => ∃ (kq : Nat) (x21_1 : Bool), v21 = .bool x21_1 ∧ Aside0 (horariumlaw02_ClockDivides.j0 kq l0 x21_1 = some r) ∧ Aside0 (kq ≤ k) ∧ Aside0 (Below w.heap.size w wc))
  case first =>
    have H := HC2.out
    clear HC2
    replace H := Option.bind_eq_some_iff.mp H
    obtain ⟨t128, A30, H⟩ := H
    replace H : (if t128 = true then (if (l0.length : Int) > 20 then (horariumlaw02_ClockDivides.j0 k l0 true) else (horariumlaw02_ClockDivides.j0 k l0 ((l0.length : Int) == 0))) else (horariumlaw02_ClockDivides.j0 k l0 true)) = some r := H
    have A3 := Aside0.mk A30
    clear A30
    by_cases c4 : t128 = true
    · subst c4
      have H1 : (if (l0.length : Int) > 20 then (horariumlaw02_ClockDivides.j0 k l0 true) else (horariumlaw02_ClockDivides.j0 k l0 ((l0.length : Int) == 0))) = some r := by rw [if_pos rfl] at H; exact H
      clear H
      have H := H1
      clear H1
      by_cases c5 : (l0.length : Int) > 20
      · rw [if_pos c5] at H
        have c5b0 : decide (20 < (l0.length : Int)) = true := decide_eq_true c5
        have c5b1 : decide (20 < l0.length) = true := decide_eq_true (by omega)
        clear c5
        (first | rw [c5b0] | (simp only [i64_w, i32_w]; rw [c5b0]) | skip)
        have H' := Aside0.mk H
        clear H
        go_wp2_with (first | ((with_reducible refine gate_callee (f := 35) rfl ?_); refine goesL_ (some 10) rfl rfl Try.func35 (by kernel_rfl) rfl #[] rfl (by (try simp only [List.map_toArray, List.map_cons, List.map_nil]); first | done | rfl | (simp only [List.length_drop, List.length_take]; rfl)) ?_; (with_reducible refine (horariumlaw02_awake.calls k  true _ A3.out).mono ?_); rintro e w6 ⟨rfl, hb⟩; refine ⟨_, rfl, ?_⟩; have n0_ := Aside0.mk (below_step (by repeat (first | (with_reducible first | exact HB.out | apply below_alloc | apply pw_below_drewN | apply below_drew1) | exact HB.out)) hb); clear HB; have HB := n0_; clear n0_; (try clear hb); (try clear hb2); (try clear hk); (try clear hi)))
        go_meet
        case rel => exact ⟨_, (true), (by first | rfl | (simp; done) | (simp [*]; done)), H', ⟨by first | omega | exact Nat.le_refl _⟩, ⟨by repeat (first | (with_reducible first | exact HB.out | apply below_alloc | apply pw_below_drewN | apply below_drew1) | exact HB.out)⟩⟩
      · rw [if_neg c5] at H
        have c5b0 : decide (20 < (l0.length : Int)) = false := decide_eq_false c5
        have c5b1 : decide (20 < l0.length) = false := decide_eq_false (by omega)
        clear c5
        (first | rw [c5b0] | (simp only [i64_w, i32_w]; rw [c5b0]) | skip)
        have H' := Aside0.mk H
        clear H
        go_wp2_with (first | ((with_reducible refine gate_callee (f := 35) rfl ?_); refine goesL_ (some 10) rfl rfl Try.func35 (by kernel_rfl) rfl #[] rfl (by (try simp only [List.map_toArray, List.map_cons, List.map_nil]); first | done | rfl | (simp only [List.length_drop, List.length_take]; rfl)) ?_; (with_reducible refine (horariumlaw02_awake.calls k  true _ A3.out).mono ?_); rintro e w7 ⟨rfl, hb⟩; refine ⟨_, rfl, ?_⟩; have n0_ := Aside0.mk (below_step (by repeat (first | (with_reducible first | exact HB.out | apply below_alloc | apply pw_below_drewN | apply below_drew1) | exact HB.out)) hb); clear HB; have HB := n0_; clear n0_; (try clear hb); (try clear hb2); (try clear hk); (try clear hi)))
        go_meet
        case rel => exact ⟨_, (((l0.length : Int) == 0)), (by first | rfl | (simp; done) | (simp [*]; done)), H', ⟨by first | omega | exact Nat.le_refl _⟩, ⟨by repeat (first | (with_reducible first | exact HB.out | apply below_alloc | apply pw_below_drewN | apply below_drew1) | exact HB.out)⟩⟩
    · replace c4 := Bool.eq_false_iff.mpr c4
      subst c4
      have H1 : (horariumlaw02_ClockDivides.j0 k l0 true) = some r := by rw [if_neg (show ¬ (false = true) by decide)] at H; exact H
      clear H
      have H := H1
      clear H1
      have H' := Aside0.mk H
      clear H
      go_wp2_with (first | ((with_reducible refine gate_callee (f := 35) rfl ?_); refine goesL_ (some 10) rfl rfl Try.func35 (by kernel_rfl) rfl #[] rfl (by (try simp only [List.map_toArray, List.map_cons, List.map_nil]); first | done | rfl | (simp only [List.length_drop, List.length_take]; rfl)) ?_; (with_reducible refine (horariumlaw02_awake.calls k  false _ A3.out).mono ?_); rintro e w8 ⟨rfl, hb⟩; refine ⟨_, rfl, ?_⟩; have n0_ := Aside0.mk (below_step (by repeat (first | (with_reducible first | exact HB.out | apply below_alloc | apply pw_below_drewN | apply below_drew1) | exact HB.out)) hb); clear HB; have HB := n0_; clear n0_; (try clear hb); (try clear hb2); (try clear hk); (try clear hi)))
      go_meet
      case rel => exact ⟨_, (true), (by first | rfl | (simp; done) | (simp [*]; done)), H', ⟨by first | omega | exact Nat.le_refl _⟩, ⟨by repeat (first | (with_reducible first | exact HB.out | apply below_alloc | apply pw_below_drewN | apply below_drew1) | exact HB.out)⟩⟩
  case rest =>
    clear HC2
    try clear c1
    try clear p2
    try clear c3
    try clear c4
    try clear c5
    try clear c5b0
    try clear c5b1
    obtain ⟨kq, x21_1, rfl, HA, HJ1, HB⟩ := hcut
    cases kq with
    | zero => exact absurd HA.out (by simp [horariumlaw02_ClockDivides.j0])
    | succ kj1 =>
      have H := HA.out
      clear HA
      simp only [horariumlaw02_ClockDivides.j0] at H
      by_cases c9 : x21_1 = true
      · subst c9
        have H1 : ((horariumlaw02_awake.f kj1).bind fun t129 => (some t129)) = some r := by rw [if_pos rfl] at H; exact H
        clear H
        have H := H1
        clear H1
        replace H := Option.bind_eq_some_iff.mp H
        obtain ⟨t129, A100, H⟩ := H
        replace H : (some t129) = some r := H
        have A10 := Aside0.mk A100
        clear A100
        obtain rfl := Option.some.inj H
        go_wp2_with (first | ((with_reducible refine gate_callee (f := 35) rfl ?_); refine goesL_ (some 22) rfl rfl Try.func35 (by kernel_rfl) rfl #[] rfl (by (try simp only [List.map_toArray, List.map_cons, List.map_nil]); first | done | rfl | (simp only [List.length_drop, List.length_take]; rfl)) ?_; (with_reducible refine (horariumlaw02_awake.calls kj1  t129 _ A10.out).mono ?_); rintro e w11 ⟨rfl, hb⟩; refine ⟨_, rfl, ?_⟩; have n0_ := Aside0.mk (below_step (by repeat (first | (with_reducible first | exact HB.out | apply below_alloc | apply pw_below_drewN | apply below_drew1) | exact HB.out)) hb); clear HB; have HB := n0_; clear n0_; (try clear hb); (try clear hb2); (try clear hk); (try clear hi)))
        go_ret
        exact ⟨by first | rfl | (simp [errW_none, errW_some] <;> rfl) | (simp [*, errW_none, errW_some] <;> rfl), by repeat (first | (with_reducible first | exact HB.out | apply below_alloc | apply pw_below_drewN | apply below_drew1) | exact HB.out)⟩
      · replace c9 := Bool.eq_false_iff.mpr c9
        subst c9
        have H1 : ((clock_Hyper.f kj1 l0).bind fun bt130 => (if bt130.2 = 0 then (horariumlaw02_ClockDivides.l0 kj1 l0 bt130.1 0) else (some (bt130.1 == 0)))) = some r := by rw [if_neg (show ¬ (false = true) by decide)] at H; exact H
        clear H
        have H := H1
        clear H1
        replace H := Option.bind_eq_some_iff.mp H
        obtain ⟨⟨t130, t131⟩, A120, H⟩ := H
        replace H : (if t131 = 0 then (horariumlaw02_ClockDivides.l0 kj1 l0 t130 0) else (some (t130 == 0))) = some r := H
        have A12 := Aside0.mk A120
        clear A120
        by_cases c13 : t131 = 0
        · rw [if_pos c13] at H
          have c13b0 : (t131 == 0) = true := beq_iff_eq.mpr c13
          have c13b1 : (t131 != 0) = false := bne_eq_false_iff_eq.mpr c13
          clear c13
          have H' := Aside0.mk H
          clear H
          go_wp2_with (first | ((with_reducible refine gate_callee (f := 44) rfl ?_); refine goesL_ (some 25) rfl rfl Try.func44 (by kernel_rfl) rfl #[.slice A0 l0.length c0] rfl (by (try simp only [List.map_toArray, List.map_cons, List.map_nil]); first | done | rfl | (simp only [List.length_drop, List.length_take]; rfl)) ?_; (with_reducible refine (clock_Hyper.calls kj1 _ _ l0 t130 t131 _ ?side1 ?side2 A12.out).mono ?_); (case side1 => repeat (first | exact (Kd.C_below HR0.out HB.out) | (with_reducible refine Kd.C_alloc ?_ _) | (with_reducible refine Kd.C_drewN ?_ _) | (with_reducible refine Kd.C_drew ?_))); (case side2 => exact HC0.out); rintro e w14 ⟨rfl, hb⟩; refine ⟨_, rfl, ?_⟩; have n0_ := Aside0.mk (below_step (by repeat (first | (with_reducible first | exact HB.out | apply below_alloc | apply pw_below_drewN | apply below_drew1) | exact HB.out)) hb); clear HB; have HB := n0_; clear n0_; (try clear hb); (try clear hb2); (try clear hk); (try clear hi)))
          go_loopg [5] kj1 (fun kq v5 w' => ∃ (x5_2 : Int), v5 = .int .i64 x5_2 ∧ Aside0 (horariumlaw02_ClockDivides.l0 kq l0 t130 x5_2 = some r) ∧ Aside0 (kq ≤ kj1) ∧ Aside0 (Below w.heap.size w w'))
          case atStart => exact ⟨(0), (by first | rfl | (simp; done) | (simp [*]; done)), H', ⟨Nat.le_refl _⟩, ⟨by repeat (first | (with_reducible first | exact HB.out | apply below_alloc | apply pw_below_drewN | apply below_drew1) | exact HB.out)⟩⟩
          case round =>
            clear H'
            try clear c1
            try clear p2
            try clear c3
            try clear c4
            try clear c5
            try clear c5b0
            try clear c5b1
            try clear c9
            try clear c13
            try clear c13b0
            try clear c13b1
            try clear c14
            try clear p2
            obtain ⟨x5_2, rfl, HA, HK2, HB⟩ := hrel
            cases gk with
            | zero => exact absurd HA.out (by simp [horariumlaw02_ClockDivides.l0])
            | succ k2 =>
              have H := HA.out
              clear HA
              simp only [horariumlaw02_ClockDivides.l0] at H
              by_cases c15 : x5_2 < (l0.length : Int)
              · rw [if_pos c15] at H
                have c15b0 : decide (x5_2 < (l0.length : Int)) = true := decide_eq_true c15
                clear c15
                by_cases c16 : 0 ≤ x5_2
                · rw [if_pos c16] at H
                  have c16b0 : decide (0 ≤ x5_2) = true := decide_eq_true c16
                  clear c16
                  replace H := Option.bind_eq_some_iff.mp H
                  obtain ⟨t133, A170, H⟩ := H
                  replace H : (if t133 = true then (if ((rd_T48 l0 x5_2).f0) = 0 then (none) else (if (Int.tmod t130 ((rd_T48 l0 x5_2).f0)) = 0 then (horariumlaw02_ClockDivides.l0 k2 l0 t130 (wrap64 (x5_2 + 1))) else (some false))) else (some false)) = some r := H
                  have A17 := Aside0.mk A170
                  clear A170
                  by_cases c18 : t133 = true
                  · subst c18
                    have H1 : (if ((rd_T48 l0 x5_2).f0) = 0 then (none) else (if (Int.tmod t130 ((rd_T48 l0 x5_2).f0)) = 0 then (horariumlaw02_ClockDivides.l0 k2 l0 t130 (wrap64 (x5_2 + 1))) else (some false))) = some r := by rw [if_pos rfl] at H; exact H
                    clear H
                    have H := H1
                    clear H1
                    by_cases c19 : ((rd_T48 l0 x5_2).f0) = 0
                    · rw [if_pos c19] at H
                      exact absurd H (by simp)
                    · rw [if_neg c19] at H
                      have c19b0 : (((rd_T48 l0 x5_2).f0) == 0) = false := beq_eq_false_iff_ne.mpr c19
                      have c19b1 : (((rd_T48 l0 x5_2).f0) != 0) = true := bne_iff_ne.mpr c19
                      by_cases c20 : (Int.tmod t130 ((rd_T48 l0 x5_2).f0)) = 0
                      · rw [if_pos c20] at H
                        have c20b0 : ((Int.tmod t130 ((rd_T48 l0 x5_2).f0)) == 0) = true := beq_iff_eq.mpr c20
                        have c20b1 : ((Int.tmod t130 ((rd_T48 l0 x5_2).f0)) != 0) = false := bne_eq_false_iff_eq.mpr c20
                        clear c20
                        have H' := Aside0.mk H
                        clear H
                        have p132 : 0 ≤ (x5_2 : Int) := of_decide_eq_true (by first | (with_reducible assumption) | assumption)
                        have q132 : x5_2 < (l0.length : Int) := of_decide_eq_true (by first | (with_reducible assumption) | assumption)
                        obtain ⟨ad132, e132, hx132_0, hx132_1⟩ := at_T48 HR0.out x5_2 p132 q132
                        cases e132
                        replace hx132_0 := (HB.out.cell (World.block_lt_of_cell? w _ hx132_0)).trans hx132_0
                        replace hx132_1 := (HB.out.cell (World.block_lt_of_cell? w _ hx132_1)).trans hx132_1
                        replace p132 := eq_true p132
                        replace q132 := eq_true q132
                        go_wp2_with (first | ((with_reducible refine gate_callee (f := 34) rfl ?_); refine goesL_ (some 42) rfl rfl Try.func34 (by kernel_rfl) rfl #[.agg #[.int .i64 ((rd_T48 l0 x5_2).f0), .int .i64 ((rd_T48 l0 x5_2).f1)]] rfl (by (try simp only [List.map_toArray, List.map_cons, List.map_nil]); first | done | rfl | (simp only [List.length_drop, List.length_take]; rfl)) ?_; (with_reducible refine (horariumref02_Right.calls ((rd_T48 l0 x5_2).f0) ((rd_T48 l0 x5_2).f1) true _ A17.out).mono ?_); rintro e w21 ⟨rfl, hb⟩; refine ⟨_, rfl, ?_⟩; have n0_ := Aside0.mk (below_step (by repeat (first | (with_reducible first | exact HB.out | apply below_alloc | apply pw_below_drewN | apply below_drew1) | exact HB.out)) hb); clear HB; have HB := n0_; clear n0_; (try clear hb); (try clear hb2); (try clear hk); (try clear hi); have p134 : 0 ≤ (x5_2 : Int) := of_decide_eq_true (by first | (with_reducible assumption) | assumption); have q134 : x5_2 < (l0.length : Int) := of_decide_eq_true (by first | (with_reducible assumption) | assumption); obtain ⟨ad134, e134, hx134_0, hx134_1⟩ := at_T48 HR0.out x5_2 p134 q134; obtain rfl : ad132 = ad134 := (by injection e134); replace hx134_0 := (HB.out.cell (World.block_lt_of_cell? w _ hx134_0)).trans hx134_0; replace hx134_1 := (HB.out.cell (World.block_lt_of_cell? w _ hx134_1)).trans hx134_1; replace p134 := eq_true p134; replace q134 := eq_true q134))
                        go_roundg k2
                        case measure => have := HJ1.out; have := HK2.out; omega
                        case rel => exact ⟨(wrap64 (x5_2 + 1)), (by first | rfl | (simp; done) | (simp [*]; done)), H', ⟨by have := HJ1.out; have := HK2.out; omega⟩, ⟨by repeat (first | (with_reducible first | exact HB.out | apply below_alloc | apply pw_below_drewN | apply below_drew1) | exact HB.out)⟩⟩
                      · rw [if_neg c20] at H
                        have c20b0 : ((Int.tmod t130 ((rd_T48 l0 x5_2).f0)) == 0) = false := beq_eq_false_iff_ne.mpr c20
                        have c20b1 : ((Int.tmod t130 ((rd_T48 l0 x5_2).f0)) != 0) = true := bne_iff_ne.mpr c20
                        obtain rfl := Option.some.inj H
                        have p132 : 0 ≤ (x5_2 : Int) := of_decide_eq_true (by first | (with_reducible assumption) | assumption)
                        have q132 : x5_2 < (l0.length : Int) := of_decide_eq_true (by first | (with_reducible assumption) | assumption)
                        obtain ⟨ad132, e132, hx132_0, hx132_1⟩ := at_T48 HR0.out x5_2 p132 q132
                        cases e132
                        replace hx132_0 := (HB.out.cell (World.block_lt_of_cell? w _ hx132_0)).trans hx132_0
                        replace hx132_1 := (HB.out.cell (World.block_lt_of_cell? w _ hx132_1)).trans hx132_1
                        replace p132 := eq_true p132
                        replace q132 := eq_true q132
                        go_wp2_with (first | ((with_reducible refine gate_callee (f := 34) rfl ?_); refine goesL_ (some 42) rfl rfl Try.func34 (by kernel_rfl) rfl #[.agg #[.int .i64 ((rd_T48 l0 x5_2).f0), .int .i64 ((rd_T48 l0 x5_2).f1)]] rfl (by (try simp only [List.map_toArray, List.map_cons, List.map_nil]); first | done | rfl | (simp only [List.length_drop, List.length_take]; rfl)) ?_; (with_reducible refine (horariumref02_Right.calls ((rd_T48 l0 x5_2).f0) ((rd_T48 l0 x5_2).f1) true _ A17.out).mono ?_); rintro e w22 ⟨rfl, hb⟩; refine ⟨_, rfl, ?_⟩; have n0_ := Aside0.mk (below_step (by repeat (first | (with_reducible first | exact HB.out | apply below_alloc | apply pw_below_drewN | apply below_drew1) | exact HB.out)) hb); clear HB; have HB := n0_; clear n0_; (try clear hb); (try clear hb2); (try clear hk); (try clear hi); have p134 : 0 ≤ (x5_2 : Int) := of_decide_eq_true (by first | (with_reducible assumption) | assumption); have q134 : x5_2 < (l0.length : Int) := of_decide_eq_true (by first | (with_reducible assumption) | assumption); obtain ⟨ad134, e134, hx134_0, hx134_1⟩ := at_T48 HR0.out x5_2 p134 q134; obtain rfl : ad132 = ad134 := (by injection e134); replace hx134_0 := (HB.out.cell (World.block_lt_of_cell? w _ hx134_0)).trans hx134_0; replace hx134_1 := (HB.out.cell (World.block_lt_of_cell? w _ hx134_1)).trans hx134_1; replace p134 := eq_true p134; replace q134 := eq_true q134))
                        go_ret
                        exact ⟨by first | rfl | (simp [errW_none, errW_some] <;> rfl) | (simp [*, errW_none, errW_some] <;> rfl), by repeat (first | (with_reducible first | exact HB.out | apply below_alloc | apply pw_below_drewN | apply below_drew1) | exact HB.out)⟩
                  · replace c18 := Bool.eq_false_iff.mpr c18
                    subst c18
                    have H1 : (some false) = some r := by rw [if_neg (show ¬ (false = true) by decide)] at H; exact H
                    clear H
                    have H := H1
                    clear H1
                    obtain rfl := Option.some.inj H
                    have p132 : 0 ≤ (x5_2 : Int) := of_decide_eq_true (by first | (with_reducible assumption) | assumption)
                    have q132 : x5_2 < (l0.length : Int) := of_decide_eq_true (by first | (with_reducible assumption) | assumption)
                    obtain ⟨ad132, e132, hx132_0, hx132_1⟩ := at_T48 HR0.out x5_2 p132 q132
                    cases e132
                    replace hx132_0 := (HB.out.cell (World.block_lt_of_cell? w _ hx132_0)).trans hx132_0
                    replace hx132_1 := (HB.out.cell (World.block_lt_of_cell? w _ hx132_1)).trans hx132_1
                    replace p132 := eq_true p132
                    replace q132 := eq_true q132
                    go_wp2_with (first | ((with_reducible refine gate_callee (f := 34) rfl ?_); refine goesL_ (some 42) rfl rfl Try.func34 (by kernel_rfl) rfl #[.agg #[.int .i64 ((rd_T48 l0 x5_2).f0), .int .i64 ((rd_T48 l0 x5_2).f1)]] rfl (by (try simp only [List.map_toArray, List.map_cons, List.map_nil]); first | done | rfl | (simp only [List.length_drop, List.length_take]; rfl)) ?_; (with_reducible refine (horariumref02_Right.calls ((rd_T48 l0 x5_2).f0) ((rd_T48 l0 x5_2).f1) false _ A17.out).mono ?_); rintro e w23 ⟨rfl, hb⟩; refine ⟨_, rfl, ?_⟩; have n0_ := Aside0.mk (below_step (by repeat (first | (with_reducible first | exact HB.out | apply below_alloc | apply pw_below_drewN | apply below_drew1) | exact HB.out)) hb); clear HB; have HB := n0_; clear n0_; (try clear hb); (try clear hb2); (try clear hk); (try clear hi)))
                    go_ret
                    exact ⟨by first | rfl | (simp [errW_none, errW_some] <;> rfl) | (simp [*, errW_none, errW_some] <;> rfl), by repeat (first | (with_reducible first | exact HB.out | apply below_alloc | apply pw_below_drewN | apply below_drew1) | exact HB.out)⟩
                · rw [if_neg c16] at H
                  exact absurd H (by simp)
              · rw [if_neg c15] at H
                have c15b0 : decide (x5_2 < (l0.length : Int)) = false := decide_eq_false c15
                clear c15
                obtain ⟨ji24, hji24⟩ : ∃ j_ : Int, (wrap64 ((l0.length : Int) - 1)) = j_ := ⟨_, rfl⟩
                replace H : (if 0 ≤ (ji24) then (if (ji24) ≤ (l0.length : Int) then ((clock_Hyper.f k2 (l0.take ((ji24) : Int).toNat)).bind fun bt139 => (if (ji24) < (l0.length : Int) then ((clock_Hyper.f k2 (([(⟨mx bt139.1 1, 0⟩ : S48), (⟨(rd_T48 l0 (ji24)).f0, (rd_T48 l0 (ji24)).f1⟩ : S48)] : List (S48)))).bind fun bt145 => (if bt139.2 = 0 then (if bt145.2 = 0 then (some (bt145.1 == t130)) else (some false)) else (some false))) else (none))) else (none)) else (none)) = some r := by first | (rw [hji24] at H; exact H) | (simp only [hji24] at H ⊢; exact H)
                have hji24w : (IntKind.i64.wrap ((l0.length : Int) - 1)) = ji24 := (i64_w _).trans hji24
                by_cases c25 : 0 ≤ (ji24)
                · rw [if_pos c25] at H
                  have c25b0 := eq_true c25
                  have c25b1 : decide (0 ≤ (ji24)) = true := decide_eq_true c25
                  clear c25
                  by_cases c26 : (ji24) ≤ (l0.length : Int)
                  · rw [if_pos c26] at H
                    have c26b0 := eq_true c26
                    have c26b1 : decide ((ji24) ≤ (l0.length : Int)) = true := decide_eq_true c26
                    clear c26
                    obtain ⟨y135, hy135⟩ : ∃ y_ : List (S48), y_ = (l0.take ((ji24) : Int).toNat) := ⟨_, rfl⟩
                    replace H : ((clock_Hyper.f k2 y135).bind fun bt139 => (if (ji24) < (l0.length : Int) then ((clock_Hyper.f k2 (([(⟨mx bt139.1 1, 0⟩ : S48), (⟨(rd_T48 l0 (ji24)).f0, (rd_T48 l0 (ji24)).f1⟩ : S48)] : List (S48)))).bind fun bt145 => (if bt139.2 = 0 then (if bt145.2 = 0 then (some (bt145.1 == t130)) else (some false)) else (some false))) else (none))) = some r := by first | (rw [hy135]; with_reducible exact H) | (have H2_ := (Option.bind_some _ _).symm.trans H; rw [hy135]; with_reducible exact H2_) | (have H2_ := (Option.bind_some _ _).symm.trans H; with_reducible exact H2_) | with_reducible exact H | (rw [hy135]; exact H) | exact H
                    have Ny135 := Aside0.mk hy135
                    clear hy135
                    replace H := Option.bind_eq_some_iff.mp H
                    obtain ⟨⟨t139, t140⟩, A270, H⟩ := H
                    replace H : (if (ji24) < (l0.length : Int) then ((clock_Hyper.f k2 (([(⟨mx t139 1, 0⟩ : S48), (⟨(rd_T48 l0 (ji24)).f0, (rd_T48 l0 (ji24)).f1⟩ : S48)] : List (S48)))).bind fun bt145 => (if t140 = 0 then (if bt145.2 = 0 then (some (bt145.1 == t130)) else (some false)) else (some false))) else (none)) = some r := H
                    have A27 := Aside0.mk A270
                    clear A270
                    obtain ⟨ji28, hji28⟩ : ∃ j_ : Int, (mx t139 1) = j_ := ⟨_, rfl⟩
                    replace H : (if (ji24) < (l0.length : Int) then ((clock_Hyper.f k2 (([(⟨ji28, 0⟩ : S48), (⟨(rd_T48 l0 (ji24)).f0, (rd_T48 l0 (ji24)).f1⟩ : S48)] : List (S48)))).bind fun bt145 => (if t140 = 0 then (if bt145.2 = 0 then (some (bt145.1 == t130)) else (some false)) else (some false))) else (none)) = some r := by first | (rw [hji28] at H; exact H) | (simp only [hji28] at H ⊢; exact H)
                    (try rw [hji28] at A27)
                    (try (have hji28l : 1 ≤ ji28 := by (rw [← hji28]; unfold mx; (repeat' split) <;> omega)))
                    (try (have hji28m : 0 ≤ ji28 := by omega))
                    have hji28_ : (if t139 < 1 then 1 else t139) = ji28 := hji28
                    by_cases c29 : (ji24) < (l0.length : Int)
                    · rw [if_pos c29] at H
                      have c29b0 : decide ((ji24) < (l0.length : Int)) = true := decide_eq_true c29
                      clear c29
                      obtain ⟨y142, hy142⟩ : ∃ y_ : List (S48), y_ = (([(⟨ji28, 0⟩ : S48), (⟨(rd_T48 l0 (ji24)).f0, (rd_T48 l0 (ji24)).f1⟩ : S48)] : List (S48))) := ⟨_, rfl⟩
                      replace H : ((clock_Hyper.f k2 y142).bind fun bt145 => (if t140 = 0 then (if bt145.2 = 0 then (some (bt145.1 == t130)) else (some false)) else (some false))) = some r := by first | (rw [hy142]; with_reducible exact H) | (have H2_ := (Option.bind_some _ _).symm.trans H; rw [hy142]; with_reducible exact H2_) | (have H2_ := (Option.bind_some _ _).symm.trans H; with_reducible exact H2_) | with_reducible exact H | (rw [hy142]; exact H) | exact H
                      have Ny142 := Aside0.mk hy142
                      clear hy142
                      replace H := Option.bind_eq_some_iff.mp H
                      obtain ⟨⟨t145, t146⟩, A300, H⟩ := H
                      replace H : (if t140 = 0 then (if t146 = 0 then (some (t145 == t130)) else (some false)) else (some false)) = some r := H
                      have A30 := Aside0.mk A300
                      clear A300
                      by_cases c31 : t140 = 0
                      · rw [if_pos c31] at H
                        have c31b0 : (t140 == 0) = true := beq_iff_eq.mpr c31
                        have c31b1 : (t140 != 0) = false := bne_eq_false_iff_eq.mpr c31
                        clear c31
                        by_cases c32 : t146 = 0
                        · rw [if_pos c32] at H
                          have c32b0 : (t146 == 0) = true := beq_iff_eq.mpr c32
                          have c32b1 : (t146 != 0) = false := bne_eq_false_iff_eq.mpr c32
                          clear c32
                          obtain rfl := Option.some.inj H
                          have q33 : ((ji24) : Int) ≤ ((l0.length : Int) : Int) := of_decide_eq_true (by first | (with_reducible assumption) | assumption)
                          obtain ⟨i033, hi033, _, hsz33, _⟩ := info_parts info48
                          have hroom33 : l0.length ≤ c0 := HC0.out
                          have hC33 : Kd.C k48 _ A0 l0.length l0 := HR0.out
                          have hcut33 := cut_to (P := Try.prog) 70 48 .i64 Try.underlying70 hi033 A0 l0.length c0 (ji24) (of_decide_eq_true (by first | (with_reducible assumption) | assumption)) q33 hroom33
                          have hr33 := Kd.C_take (m := ((ji24) : Int).toNat) hC33 (by omega)
                          have hy33 : y135.length = ((ji24) : Int).toNat := (by rw [Ny135.out, List.length_take]; omega)
                          rw [← Ny135.out] at hr33
                          rw [← hy33] at hcut33
                          have HR138 := Aside0.mk hr33
                          have HC138 := Aside0.mk (show y135.length ≤ c0 from by omega)
                          clear hr33 hC33 hroom33 hi033 hsz33
                          have KY33 := Aside0.mk hy33
                          clear hy33
                          replace q33 := eq_true q33
                          go_wp2_with (first | ((with_reducible refine gate_callee (f := 44) rfl ?_); refine goesL_ (some 60) rfl rfl Try.func44 (by kernel_rfl) rfl #[.slice A0 y135.length c0] rfl (by (try simp only [List.map_toArray, List.map_cons, List.map_nil]); first | done | rfl | (simp only [List.length_drop, List.length_take]; rfl)) ?_; (with_reducible refine (clock_Hyper.calls k2 _ _ y135 t139 t140 _ ?side1 ?side2 A27.out).mono ?_); (case side1 => repeat (first | exact (Kd.C_below HR138.out HB.out) | (with_reducible refine Kd.C_alloc ?_ _) | (with_reducible refine Kd.C_drewN ?_ _) | (with_reducible refine Kd.C_drew ?_))); (case side2 => exact HC138.out); rintro e w34 ⟨rfl, hb⟩; refine ⟨_, rfl, ?_⟩; have n0_ := Aside0.mk (below_step (by repeat (first | (with_reducible first | exact HB.out | apply below_alloc | apply pw_below_drewN | apply below_drew1) | exact HB.out)) hb); clear HB; have HB := n0_; clear n0_; (try clear hb); (try clear hb2); (try clear hk); (try clear hi); have p141 : 0 ≤ ((ji24) : Int) := of_decide_eq_true (by first | (with_reducible assumption) | assumption); have q141 : (ji24) < (l0.length : Int) := of_decide_eq_true (by first | (with_reducible assumption) | assumption); obtain ⟨ad141, e141, hx141_0, hx141_1⟩ := at_T48 HR0.out (ji24) p141 q141; cases e141; replace hx141_0 := (HB.out.cell (World.block_lt_of_cell? w _ hx141_0)).trans hx141_0; replace hx141_1 := (HB.out.cell (World.block_lt_of_cell? w _ hx141_1)).trans hx141_1; replace p141 := eq_true p141; replace q141 := eq_true q141) | ((with_reducible refine gate_dst (N := 73) rfl ?_); (try (refine gate_guard (by rfl) ?_; dsimp only)); refine Kd.R_lit k48 _ 48 ?hg (N := 73) ?hd (xs := ([(⟨ji28, 0⟩ : S48), (⟨(rd_T48 l0 (ji24)).f0, (rd_T48 l0 (ji24)).f1⟩ : S48)] : List (S48))) (inner := [.int .i64 ji28, .int .i64 0, .int .i64 ((rd_T48 l0 (ji24)).f0), .int .i64 ((rd_T48 l0 (ji24)).f1)]) (ok := fun _ => True) (okp := fun _ => True) ?hr ?hp (fun _ hk => hk) trivial (Below.refl _ _) (Nat.le_refl _) (by simp) ?_; (case hd => rfl); (case hg => rfl); (case hr => first | (go_simp; done) | (go_simp; rfl)); (case hp => exact (Reps.c2 (show Kd.M k48 _ _ _ (⟨ji28, 0⟩ : S48) [.int .i64 ji28, .int .i64 0] from (k48_mkM _ _ _ (⟨ji28, 0⟩ : S48) )) (Reps.c2 (show Kd.M k48 _ _ _ (⟨(rd_T48 l0 (ji24)).f0, (rd_T48 l0 (ji24)).f1⟩ : S48) [.int .i64 ((rd_T48 l0 (ji24)).f0), .int .i64 ((rd_T48 l0 (ji24)).f1)] from (k48_mkM _ _ _ (⟨(rd_T48 l0 (ji24)).f0, (rd_T48 l0 (ji24)).f1⟩ : S48) )) (Reps.none _ _)))); intro v143 w35 ho36 hb hg_ hnew_; clear hg_ hnew_; (first | rw [← Ny142.out] at ho36 | (simp only [Int.reduceToNat] at ho36; rw [← Ny142.out] at ho36)); have n0_ := Aside0.mk (Kd.R_lower ho36 (below_size (by repeat (first | (with_reducible first | exact HB.out | apply below_alloc | apply pw_below_drewN | apply below_drew1) | exact HB.out)))); have n1_ := Aside0.mk (below_step (by repeat (first | (with_reducible first | exact HB.out | apply below_alloc | apply pw_below_drewN | apply below_drew1) | exact HB.out)) hb); clear HB; have HO144 := n0_; have HB := n1_; clear n0_ n1_; clear hb ho36; obtain ⟨Ao37, co37, eo37⟩ := Kd.R_slice HO144.out; subst eo37) | ((with_reducible refine gate_callee (f := 44) rfl ?_); refine goesL_ (some 74) rfl rfl Try.func44 (by kernel_rfl) rfl #[.slice Ao37 y142.length co37] rfl (by (try simp only [List.map_toArray, List.map_cons, List.map_nil]); first | done | rfl | (simp only [List.length_drop, List.length_take]; rfl)) ?_; (with_reducible refine (clock_Hyper.calls k2 _ _ y142 t145 t146 _ ?side1 ?side2 A30.out).mono ?_); (case side1 => repeat (first | exact (Kd.R_reads' HO144.out).2.2 | (with_reducible refine Kd.C_alloc ?_ _) | (with_reducible refine Kd.C_drewN ?_ _) | (with_reducible refine Kd.C_drew ?_))); (case side2 => exact (Kd.R_reads' HO144.out).2.1); rintro e w38 ⟨rfl, hb⟩; refine ⟨_, rfl, ?_⟩; have n0_ := Aside0.mk (Kd.R_below (by (with_reducible repeat (first | apply Kd.R_alloc | apply Kd.R_drewN | apply Kd.R_drew)); exact HO144.out) hb); have n1_ := Aside0.mk (below_step (by repeat (first | (with_reducible first | exact HB.out | apply below_alloc | apply pw_below_drewN | apply below_drew1) | exact HB.out)) hb); clear HO144; clear HB; have HO144 := n0_; have HB := n1_; clear n0_ n1_; (try clear hb); (try clear hb2); (try clear hk); (try clear hi)))
                          go_ret
                          exact ⟨by first | rfl | (simp [errW_none, errW_some] <;> rfl) | (simp only [← hji24, ← hji28]; first | rfl | (simp [errW_none, errW_some] <;> rfl)) | (simp [*, errW_none, errW_some] <;> rfl), by repeat (first | (with_reducible first | exact HB.out | apply below_alloc | apply pw_below_drewN | apply below_drew1) | exact HB.out)⟩
                        · rw [if_neg c32] at H
                          have c32b0 : (t146 == 0) = false := beq_eq_false_iff_ne.mpr c32
                          have c32b1 : (t146 != 0) = true := bne_iff_ne.mpr c32
                          obtain rfl := Option.some.inj H
                          have q39 : ((ji24) : Int) ≤ ((l0.length : Int) : Int) := of_decide_eq_true (by first | (with_reducible assumption) | assumption)
                          obtain ⟨i039, hi039, _, hsz39, _⟩ := info_parts info48
                          have hroom39 : l0.length ≤ c0 := HC0.out
                          have hC39 : Kd.C k48 _ A0 l0.length l0 := HR0.out
                          have hcut39 := cut_to (P := Try.prog) 70 48 .i64 Try.underlying70 hi039 A0 l0.length c0 (ji24) (of_decide_eq_true (by first | (with_reducible assumption) | assumption)) q39 hroom39
                          have hr39 := Kd.C_take (m := ((ji24) : Int).toNat) hC39 (by omega)
                          have hy39 : y135.length = ((ji24) : Int).toNat := (by rw [Ny135.out, List.length_take]; omega)
                          rw [← Ny135.out] at hr39
                          rw [← hy39] at hcut39
                          have HR138 := Aside0.mk hr39
                          have HC138 := Aside0.mk (show y135.length ≤ c0 from by omega)
                          clear hr39 hC39 hroom39 hi039 hsz39
                          have KY39 := Aside0.mk hy39
                          clear hy39
                          replace q39 := eq_true q39
                          go_wp2_with (first | ((with_reducible refine gate_callee (f := 44) rfl ?_); refine goesL_ (some 60) rfl rfl Try.func44 (by kernel_rfl) rfl #[.slice A0 y135.length c0] rfl (by (try simp only [List.map_toArray, List.map_cons, List.map_nil]); first | done | rfl | (simp only [List.length_drop, List.length_take]; rfl)) ?_; (with_reducible refine (clock_Hyper.calls k2 _ _ y135 t139 t140 _ ?side1 ?side2 A27.out).mono ?_); (case side1 => repeat (first | exact (Kd.C_below HR138.out HB.out) | (with_reducible refine Kd.C_alloc ?_ _) | (with_reducible refine Kd.C_drewN ?_ _) | (with_reducible refine Kd.C_drew ?_))); (case side2 => exact HC138.out); rintro e w40 ⟨rfl, hb⟩; refine ⟨_, rfl, ?_⟩; have n0_ := Aside0.mk (below_step (by repeat (first | (with_reducible first | exact HB.out | apply below_alloc | apply pw_below_drewN | apply below_drew1) | exact HB.out)) hb); clear HB; have HB := n0_; clear n0_; (try clear hb); (try clear hb2); (try clear hk); (try clear hi); have p141 : 0 ≤ ((ji24) : Int) := of_decide_eq_true (by first | (with_reducible assumption) | assumption); have q141 : (ji24) < (l0.length : Int) := of_decide_eq_true (by first | (with_reducible assumption) | assumption); obtain ⟨ad141, e141, hx141_0, hx141_1⟩ := at_T48 HR0.out (ji24) p141 q141; cases e141; replace hx141_0 := (HB.out.cell (World.block_lt_of_cell? w _ hx141_0)).trans hx141_0; replace hx141_1 := (HB.out.cell (World.block_lt_of_cell? w _ hx141_1)).trans hx141_1; replace p141 := eq_true p141; replace q141 := eq_true q141) | ((with_reducible refine gate_dst (N := 73) rfl ?_); (try (refine gate_guard (by rfl) ?_; dsimp only)); refine Kd.R_lit k48 _ 48 ?hg (N := 73) ?hd (xs := ([(⟨ji28, 0⟩ : S48), (⟨(rd_T48 l0 (ji24)).f0, (rd_T48 l0 (ji24)).f1⟩ : S48)] : List (S48))) (inner := [.int .i64 ji28, .int .i64 0, .int .i64 ((rd_T48 l0 (ji24)).f0), .int .i64 ((rd_T48 l0 (ji24)).f1)]) (ok := fun _ => True) (okp := fun _ => True) ?hr ?hp (fun _ hk => hk) trivial (Below.refl _ _) (Nat.le_refl _) (by simp) ?_; (case hd => rfl); (case hg => rfl); (case hr => first | (go_simp; done) | (go_simp; rfl)); (case hp => exact (Reps.c2 (show Kd.M k48 _ _ _ (⟨ji28, 0⟩ : S48) [.int .i64 ji28, .int .i64 0] from (k48_mkM _ _ _ (⟨ji28, 0⟩ : S48) )) (Reps.c2 (show Kd.M k48 _ _ _ (⟨(rd_T48 l0 (ji24)).f0, (rd_T48 l0 (ji24)).f1⟩ : S48) [.int .i64 ((rd_T48 l0 (ji24)).f0), .int .i64 ((rd_T48 l0 (ji24)).f1)] from (k48_mkM _ _ _ (⟨(rd_T48 l0 (ji24)).f0, (rd_T48 l0 (ji24)).f1⟩ : S48) )) (Reps.none _ _)))); intro v143 w41 ho42 hb hg_ hnew_; clear hg_ hnew_; (first | rw [← Ny142.out] at ho42 | (simp only [Int.reduceToNat] at ho42; rw [← Ny142.out] at ho42)); have n0_ := Aside0.mk (Kd.R_lower ho42 (below_size (by repeat (first | (with_reducible first | exact HB.out | apply below_alloc | apply pw_below_drewN | apply below_drew1) | exact HB.out)))); have n1_ := Aside0.mk (below_step (by repeat (first | (with_reducible first | exact HB.out | apply below_alloc | apply pw_below_drewN | apply below_drew1) | exact HB.out)) hb); clear HB; have HO144 := n0_; have HB := n1_; clear n0_ n1_; clear hb ho42; obtain ⟨Ao43, co43, eo43⟩ := Kd.R_slice HO144.out; subst eo43) | ((with_reducible refine gate_callee (f := 44) rfl ?_); refine goesL_ (some 74) rfl rfl Try.func44 (by kernel_rfl) rfl #[.slice Ao43 y142.length co43] rfl (by (try simp only [List.map_toArray, List.map_cons, List.map_nil]); first | done | rfl | (simp only [List.length_drop, List.length_take]; rfl)) ?_; (with_reducible refine (clock_Hyper.calls k2 _ _ y142 t145 t146 _ ?side1 ?side2 A30.out).mono ?_); (case side1 => repeat (first | exact (Kd.R_reads' HO144.out).2.2 | (with_reducible refine Kd.C_alloc ?_ _) | (with_reducible refine Kd.C_drewN ?_ _) | (with_reducible refine Kd.C_drew ?_))); (case side2 => exact (Kd.R_reads' HO144.out).2.1); rintro e w44 ⟨rfl, hb⟩; refine ⟨_, rfl, ?_⟩; have n0_ := Aside0.mk (Kd.R_below (by (with_reducible repeat (first | apply Kd.R_alloc | apply Kd.R_drewN | apply Kd.R_drew)); exact HO144.out) hb); have n1_ := Aside0.mk (below_step (by repeat (first | (with_reducible first | exact HB.out | apply below_alloc | apply pw_below_drewN | apply below_drew1) | exact HB.out)) hb); clear HO144; clear HB; have HO144 := n0_; have HB := n1_; clear n0_ n1_; (try clear hb); (try clear hb2); (try clear hk); (try clear hi)))
                          go_ret
                          exact ⟨by first | rfl | (simp [errW_none, errW_some] <;> rfl) | (simp only [← hji24, ← hji28]; first | rfl | (simp [errW_none, errW_some] <;> rfl)) | (simp [*, errW_none, errW_some] <;> rfl), by repeat (first | (with_reducible first | exact HB.out | apply below_alloc | apply pw_below_drewN | apply below_drew1) | exact HB.out)⟩
                      · rw [if_neg c31] at H
                        have c31b0 : (t140 == 0) = false := beq_eq_false_iff_ne.mpr c31
                        have c31b1 : (t140 != 0) = true := bne_iff_ne.mpr c31
                        obtain rfl := Option.some.inj H
                        have q45 : ((ji24) : Int) ≤ ((l0.length : Int) : Int) := of_decide_eq_true (by first | (with_reducible assumption) | assumption)
                        obtain ⟨i045, hi045, _, hsz45, _⟩ := info_parts info48
                        have hroom45 : l0.length ≤ c0 := HC0.out
                        have hC45 : Kd.C k48 _ A0 l0.length l0 := HR0.out
                        have hcut45 := cut_to (P := Try.prog) 70 48 .i64 Try.underlying70 hi045 A0 l0.length c0 (ji24) (of_decide_eq_true (by first | (with_reducible assumption) | assumption)) q45 hroom45
                        have hr45 := Kd.C_take (m := ((ji24) : Int).toNat) hC45 (by omega)
                        have hy45 : y135.length = ((ji24) : Int).toNat := (by rw [Ny135.out, List.length_take]; omega)
                        rw [← Ny135.out] at hr45
                        rw [← hy45] at hcut45
                        have HR138 := Aside0.mk hr45
                        have HC138 := Aside0.mk (show y135.length ≤ c0 from by omega)
                        clear hr45 hC45 hroom45 hi045 hsz45
                        have KY45 := Aside0.mk hy45
                        clear hy45
                        replace q45 := eq_true q45
                        go_wp2_with (first | ((with_reducible refine gate_callee (f := 44) rfl ?_); refine goesL_ (some 60) rfl rfl Try.func44 (by kernel_rfl) rfl #[.slice A0 y135.length c0] rfl (by (try simp only [List.map_toArray, List.map_cons, List.map_nil]); first | done | rfl | (simp only [List.length_drop, List.length_take]; rfl)) ?_; (with_reducible refine (clock_Hyper.calls k2 _ _ y135 t139 t140 _ ?side1 ?side2 A27.out).mono ?_); (case side1 => repeat (first | exact (Kd.C_below HR138.out HB.out) | (with_reducible refine Kd.C_alloc ?_ _) | (with_reducible refine Kd.C_drewN ?_ _) | (with_reducible refine Kd.C_drew ?_))); (case side2 => exact HC138.out); rintro e w46 ⟨rfl, hb⟩; refine ⟨_, rfl, ?_⟩; have n0_ := Aside0.mk (below_step (by repeat (first | (with_reducible first | exact HB.out | apply below_alloc | apply pw_below_drewN | apply below_drew1) | exact HB.out)) hb); clear HB; have HB := n0_; clear n0_; (try clear hb); (try clear hb2); (try clear hk); (try clear hi); have p141 : 0 ≤ ((ji24) : Int) := of_decide_eq_true (by first | (with_reducible assumption) | assumption); have q141 : (ji24) < (l0.length : Int) := of_decide_eq_true (by first | (with_reducible assumption) | assumption); obtain ⟨ad141, e141, hx141_0, hx141_1⟩ := at_T48 HR0.out (ji24) p141 q141; cases e141; replace hx141_0 := (HB.out.cell (World.block_lt_of_cell? w _ hx141_0)).trans hx141_0; replace hx141_1 := (HB.out.cell (World.block_lt_of_cell? w _ hx141_1)).trans hx141_1; replace p141 := eq_true p141; replace q141 := eq_true q141) | ((with_reducible refine gate_dst (N := 73) rfl ?_); (try (refine gate_guard (by rfl) ?_; dsimp only)); refine Kd.R_lit k48 _ 48 ?hg (N := 73) ?hd (xs := ([(⟨ji28, 0⟩ : S48), (⟨(rd_T48 l0 (ji24)).f0, (rd_T48 l0 (ji24)).f1⟩ : S48)] : List (S48))) (inner := [.int .i64 ji28, .int .i64 0, .int .i64 ((rd_T48 l0 (ji24)).f0), .int .i64 ((rd_T48 l0 (ji24)).f1)]) (ok := fun _ => True) (okp := fun _ => True) ?hr ?hp (fun _ hk => hk) trivial (Below.refl _ _) (Nat.le_refl _) (by simp) ?_; (case hd => rfl); (case hg => rfl); (case hr => first | (go_simp; done) | (go_simp; rfl)); (case hp => exact (Reps.c2 (show Kd.M k48 _ _ _ (⟨ji28, 0⟩ : S48) [.int .i64 ji28, .int .i64 0] from (k48_mkM _ _ _ (⟨ji28, 0⟩ : S48) )) (Reps.c2 (show Kd.M k48 _ _ _ (⟨(rd_T48 l0 (ji24)).f0, (rd_T48 l0 (ji24)).f1⟩ : S48) [.int .i64 ((rd_T48 l0 (ji24)).f0), .int .i64 ((rd_T48 l0 (ji24)).f1)] from (k48_mkM _ _ _ (⟨(rd_T48 l0 (ji24)).f0, (rd_T48 l0 (ji24)).f1⟩ : S48) )) (Reps.none _ _)))); intro v143 w47 ho48 hb hg_ hnew_; clear hg_ hnew_; (first | rw [← Ny142.out] at ho48 | (simp only [Int.reduceToNat] at ho48; rw [← Ny142.out] at ho48)); have n0_ := Aside0.mk (Kd.R_lower ho48 (below_size (by repeat (first | (with_reducible first | exact HB.out | apply below_alloc | apply pw_below_drewN | apply below_drew1) | exact HB.out)))); have n1_ := Aside0.mk (below_step (by repeat (first | (with_reducible first | exact HB.out | apply below_alloc | apply pw_below_drewN | apply below_drew1) | exact HB.out)) hb); clear HB; have HO144 := n0_; have HB := n1_; clear n0_ n1_; clear hb ho48; obtain ⟨Ao49, co49, eo49⟩ := Kd.R_slice HO144.out; subst eo49) | ((with_reducible refine gate_callee (f := 44) rfl ?_); refine goesL_ (some 74) rfl rfl Try.func44 (by kernel_rfl) rfl #[.slice Ao49 y142.length co49] rfl (by (try simp only [List.map_toArray, List.map_cons, List.map_nil]); first | done | rfl | (simp only [List.length_drop, List.length_take]; rfl)) ?_; (with_reducible refine (clock_Hyper.calls k2 _ _ y142 t145 t146 _ ?side1 ?side2 A30.out).mono ?_); (case side1 => repeat (first | exact (Kd.R_reads' HO144.out).2.2 | (with_reducible refine Kd.C_alloc ?_ _) | (with_reducible refine Kd.C_drewN ?_ _) | (with_reducible refine Kd.C_drew ?_))); (case side2 => exact (Kd.R_reads' HO144.out).2.1); rintro e w50 ⟨rfl, hb⟩; refine ⟨_, rfl, ?_⟩; have n0_ := Aside0.mk (Kd.R_below (by (with_reducible repeat (first | apply Kd.R_alloc | apply Kd.R_drewN | apply Kd.R_drew)); exact HO144.out) hb); have n1_ := Aside0.mk (below_step (by repeat (first | (with_reducible first | exact HB.out | apply below_alloc | apply pw_below_drewN | apply below_drew1) | exact HB.out)) hb); clear HO144; clear HB; have HO144 := n0_; have HB := n1_; clear n0_ n1_; (try clear hb); (try clear hb2); (try clear hk); (try clear hi)))
                        go_ret
                        exact ⟨by first | rfl | (simp [errW_none, errW_some] <;> rfl) | (simp only [← hji24, ← hji28]; first | rfl | (simp [errW_none, errW_some] <;> rfl)) | (simp [*, errW_none, errW_some] <;> rfl), by repeat (first | (with_reducible first | exact HB.out | apply below_alloc | apply pw_below_drewN | apply below_drew1) | exact HB.out)⟩
                    · rw [if_neg c29] at H
                      exact absurd H (by simp)
                  · rw [if_neg c26] at H
                    exact absurd H (by simp)
                · rw [if_neg c25] at H
                  exact absurd H (by simp)
        · rw [if_neg c13] at H
          have c13b0 : (t131 == 0) = false := beq_eq_false_iff_ne.mpr c13
          have c13b1 : (t131 != 0) = true := bne_iff_ne.mpr c13
          obtain rfl := Option.some.inj H
          go_wp2_with (first | ((with_reducible refine gate_callee (f := 44) rfl ?_); refine goesL_ (some 25) rfl rfl Try.func44 (by kernel_rfl) rfl #[.slice A0 l0.length c0] rfl (by (try simp only [List.map_toArray, List.map_cons, List.map_nil]); first | done | rfl | (simp only [List.length_drop, List.length_take]; rfl)) ?_; (with_reducible refine (clock_Hyper.calls kj1 _ _ l0 t130 t131 _ ?side1 ?side2 A12.out).mono ?_); (case side1 => repeat (first | exact (Kd.C_below HR0.out HB.out) | (with_reducible refine Kd.C_alloc ?_ _) | (with_reducible refine Kd.C_drewN ?_ _) | (with_reducible refine Kd.C_drew ?_))); (case side2 => exact HC0.out); rintro e w51 ⟨rfl, hb⟩; refine ⟨_, rfl, ?_⟩; have n0_ := Aside0.mk (below_step (by repeat (first | (with_reducible first | exact HB.out | apply below_alloc | apply pw_below_drewN | apply below_drew1) | exact HB.out)) hb); clear HB; have HB := n0_; clear n0_; (try clear hb); (try clear hb2); (try clear hk); (try clear hi)))
          go_ret
          exact ⟨by first | rfl | (simp [errW_none, errW_some] <;> rfl) | (simp [*, errW_none, errW_some] <;> rfl), by repeat (first | (with_reducible first | exact HB.out | apply below_alloc | apply pw_below_drewN | apply below_drew1) | exact HB.out)⟩

end Go.Proofs.Ytkiaglpkijhbmaa.PClockDivides
