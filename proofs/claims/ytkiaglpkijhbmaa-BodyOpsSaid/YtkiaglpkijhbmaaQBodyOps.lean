import Derived.Test.YtkiaglpkijhbmaaPBodyOpsx0
namespace Go.Proofs.Ytkiaglpkijhbmaa.PBodyOps
open Go.RowKit Go.Proofs.YtkiaglpkijhbmaaW.PrintWords Go.Proofs.YtkiaglpkijhbmaaW.PrintLast Go.Proofs.YtkiaglpkijhbmaaW.PrintMore
attribute [local go_sem] max2_int min2_int max_two min_two max_three min_three max_four min_four   -- for this text's walks alone
set_option linter.unusedVariables false
set_option linter.unusedSimpArgs false

/-! ### body_truth: function 46 -/
def body_truth.f (a0 : Bool) : Option (Int) := if a0 = true then (some 1) else (some 0)
set_option maxHeartbeats 8000000 in
set_option maxRecDepth 100000 in
theorem body_truth.calls (a0 : Bool) (r : Int) (w : World) (h : body_truth.f a0 = some r) :
    Calls Try.prog 46 #[.bool a0] w fun e w' => e = .returned (.int .i64 r) ∧ Drawn0 w w' := by
  have H : (if a0 = true then (some 1) else (some 0)) = some r := h
  clear h
  by_cases c2 : a0 = true
  · subst c2
    have H1 : (some 1) = some r := by rw [if_pos rfl] at H; exact H
    clear H
    have H := H1
    clear H1
    obtain rfl := Option.some.inj H
    go_enter Try.func46, Try.ntmps46
    go_wp2
    go_ret
    exact ⟨by first | rfl | (simp; done) | (simp [*]; done), by repeat (first | exact Drawn0.refl _ | apply Drawn0.step)⟩
  · replace c2 := Bool.eq_false_iff.mpr c2
    subst c2
    have H1 : (some 0) = some r := by rw [if_neg (show ¬ (false = true) by decide)] at H; exact H
    clear H
    have H := H1
    clear H1
    obtain rfl := Option.some.inj H
    go_enter Try.func46, Try.ntmps46
    go_wp2
    go_ret
    exact ⟨by first | rfl | (simp; done) | (simp [*]; done), by repeat (first | exact Drawn0.refl _ | apply Drawn0.step)⟩

/-! ### body_Op: function 17 -/
def body_Op.f (a0 : ByteArray) (a1 : Int) (a2 : Int) : Option (Int) := if a0.toList = ([43] : List UInt8) then (some (wrap64 (a1 + a2))) else (if a0.toList = ([45] : List UInt8) then (some (wrap64 (a1 - a2))) else (if a0.toList = ([42] : List UInt8) then (some (wrap64 (a1 * a2))) else (if a0.toList = ([60] : List UInt8) then ((body_truth.f (decide (a1 < a2))).bind fun t101 => (some t101)) else (if a0.toList = ([61, 61] : List UInt8) then ((body_truth.f (a1 == a2)).bind fun t102 => (some t102)) else (if a2 = 0 then (some 0) else (if a0.toList = ([47] : List UInt8) then (some (wrap64 (Int.tdiv a1 a2))) else (if a0.toList = ([37] : List UInt8) then (some (Int.tmod a1 a2)) else (some 0))))))))
set_option maxHeartbeats 8000000 in
set_option maxRecDepth 100000 in
theorem body_Op.calls (a0 : ByteArray) (a1 : Int) (a2 : Int) (r : Int) (w : World) (h : body_Op.f a0 a1 a2 = some r) :
    Calls Try.prog 17 #[.string a0, .int .i64 a1, .int .i64 a2] w fun e w' => e = .returned (.int .i64 r) ∧ Drawn0 w w' := by
  have H : (if a0.toList = ([43] : List UInt8) then (some (wrap64 (a1 + a2))) else (if a0.toList = ([45] : List UInt8) then (some (wrap64 (a1 - a2))) else (if a0.toList = ([42] : List UInt8) then (some (wrap64 (a1 * a2))) else (if a0.toList = ([60] : List UInt8) then ((body_truth.f (decide (a1 < a2))).bind fun t101 => (some t101)) else (if a0.toList = ([61, 61] : List UInt8) then ((body_truth.f (a1 == a2)).bind fun t102 => (some t102)) else (if a2 = 0 then (some 0) else (if a0.toList = ([47] : List UInt8) then (some (wrap64 (Int.tdiv a1 a2))) else (if a0.toList = ([37] : List UInt8) then (some (Int.tmod a1 a2)) else (some 0))))))))) = some r := h
  clear h
  by_cases c4 : a0.toList = ([43] : List UInt8)
  · rw [if_pos c4] at H
    have c4b0 : (a0.toList == ([43] : List UInt8)) = true := beq_iff_eq.mpr c4
    have c4b1 : (a0.toList != ([43] : List UInt8)) = false := bne_eq_false_iff_eq.mpr c4
    clear c4
    obtain rfl := Option.some.inj H
    go_enter Try.func17, Try.ntmps17
    go_wp2
    go_ret
    exact ⟨by first | rfl | (simp; done) | (simp [*]; done), by repeat (first | exact Drawn0.refl _ | apply Drawn0.step)⟩
  · rw [if_neg c4] at H
    have c4b0 : (a0.toList == ([43] : List UInt8)) = false := beq_eq_false_iff_ne.mpr c4
    have c4b1 : (a0.toList != ([43] : List UInt8)) = true := bne_iff_ne.mpr c4
    by_cases c5 : a0.toList = ([45] : List UInt8)
    · rw [if_pos c5] at H
      have c5b0 : (a0.toList == ([45] : List UInt8)) = true := beq_iff_eq.mpr c5
      have c5b1 : (a0.toList != ([45] : List UInt8)) = false := bne_eq_false_iff_eq.mpr c5
      clear c5
      obtain rfl := Option.some.inj H
      go_enter Try.func17, Try.ntmps17
      go_wp2
      go_ret
      exact ⟨by first | rfl | (simp; done) | (simp [*]; done), by repeat (first | exact Drawn0.refl _ | apply Drawn0.step)⟩
    · rw [if_neg c5] at H
      have c5b0 : (a0.toList == ([45] : List UInt8)) = false := beq_eq_false_iff_ne.mpr c5
      have c5b1 : (a0.toList != ([45] : List UInt8)) = true := bne_iff_ne.mpr c5
      by_cases c6 : a0.toList = ([42] : List UInt8)
      · rw [if_pos c6] at H
        have c6b0 : (a0.toList == ([42] : List UInt8)) = true := beq_iff_eq.mpr c6
        have c6b1 : (a0.toList != ([42] : List UInt8)) = false := bne_eq_false_iff_eq.mpr c6
        clear c6
        obtain rfl := Option.some.inj H
        go_enter Try.func17, Try.ntmps17
        go_wp2
        go_ret
        exact ⟨by first | rfl | (simp; done) | (simp [*]; done), by repeat (first | exact Drawn0.refl _ | apply Drawn0.step)⟩
      · rw [if_neg c6] at H
        have c6b0 : (a0.toList == ([42] : List UInt8)) = false := beq_eq_false_iff_ne.mpr c6
        have c6b1 : (a0.toList != ([42] : List UInt8)) = true := bne_iff_ne.mpr c6
        by_cases c7 : a0.toList = ([60] : List UInt8)
        · rw [if_pos c7] at H
          have c7b0 : (a0.toList == ([60] : List UInt8)) = true := beq_iff_eq.mpr c7
          have c7b1 : (a0.toList != ([60] : List UInt8)) = false := bne_eq_false_iff_eq.mpr c7
          clear c7
          replace H := Option.bind_eq_some_iff.mp H
          obtain ⟨t101, A80, H⟩ := H
          replace H : (some t101) = some r := H
          have A8 := Aside0.mk A80
          clear A80
          obtain rfl := Option.some.inj H
          go_enter Try.func17, Try.ntmps17
          go_wp2_with (first | ((with_reducible refine gate_callee (f := 46) rfl ?_); refine goesL_ (some 28) rfl rfl Try.func46 (by kernel_rfl) rfl #[.bool (decide (a1 < a2))] rfl (by (try simp only [List.map_toArray, List.map_cons, List.map_nil]); first | done | rfl | (simp only [List.length_drop, List.length_take]; rfl)) ?_; (with_reducible refine (body_truth.calls (decide (a1 < a2)) t101 _ A8.out).mono ?_); rintro e w' ⟨rfl, ⟨nd, rfl⟩⟩; refine ⟨_, rfl, ?_⟩))
          go_ret
          exact ⟨by first | rfl | (simp; done) | (simp [*]; done), by repeat (first | exact Drawn0.refl _ | apply Drawn0.step)⟩
        · rw [if_neg c7] at H
          have c7b0 : (a0.toList == ([60] : List UInt8)) = false := beq_eq_false_iff_ne.mpr c7
          have c7b1 : (a0.toList != ([60] : List UInt8)) = true := bne_iff_ne.mpr c7
          by_cases c9 : a0.toList = ([61, 61] : List UInt8)
          · rw [if_pos c9] at H
            have c9b0 : (a0.toList == ([61, 61] : List UInt8)) = true := beq_iff_eq.mpr c9
            have c9b1 : (a0.toList != ([61, 61] : List UInt8)) = false := bne_eq_false_iff_eq.mpr c9
            clear c9
            replace H := Option.bind_eq_some_iff.mp H
            obtain ⟨t102, A100, H⟩ := H
            replace H : (some t102) = some r := H
            have A10 := Aside0.mk A100
            clear A100
            obtain rfl := Option.some.inj H
            go_enter Try.func17, Try.ntmps17
            go_wp2_with (first | ((with_reducible refine gate_callee (f := 46) rfl ?_); refine goesL_ (some 34) rfl rfl Try.func46 (by kernel_rfl) rfl #[.bool (a1 == a2)] rfl (by (try simp only [List.map_toArray, List.map_cons, List.map_nil]); first | done | rfl | (simp only [List.length_drop, List.length_take]; rfl)) ?_; (with_reducible refine (body_truth.calls (a1 == a2) t102 _ A10.out).mono ?_); rintro e w' ⟨rfl, ⟨nd, rfl⟩⟩; refine ⟨_, rfl, ?_⟩))
            go_ret
            exact ⟨by first | rfl | (simp; done) | (simp [*]; done), by repeat (first | exact Drawn0.refl _ | apply Drawn0.step)⟩
          · rw [if_neg c9] at H
            have c9b0 : (a0.toList == ([61, 61] : List UInt8)) = false := beq_eq_false_iff_ne.mpr c9
            have c9b1 : (a0.toList != ([61, 61] : List UInt8)) = true := bne_iff_ne.mpr c9
            by_cases c11 : a2 = 0
            · rw [if_pos c11] at H
              have c11b0 : (a2 == 0) = true := beq_iff_eq.mpr c11
              have c11b1 : (a2 != 0) = false := bne_eq_false_iff_eq.mpr c11
              clear c11
              obtain rfl := Option.some.inj H
              go_enter Try.func17, Try.ntmps17
              go_wp2
              go_ret
              exact ⟨by first | rfl | (simp; done) | (simp [*]; done), by repeat (first | exact Drawn0.refl _ | apply Drawn0.step)⟩
            · rw [if_neg c11] at H
              have c11b0 : (a2 == 0) = false := beq_eq_false_iff_ne.mpr c11
              have c11b1 : (a2 != 0) = true := bne_iff_ne.mpr c11
              by_cases c12 : a0.toList = ([47] : List UInt8)
              · rw [if_pos c12] at H
                have c12b0 : (a0.toList == ([47] : List UInt8)) = true := beq_iff_eq.mpr c12
                have c12b1 : (a0.toList != ([47] : List UInt8)) = false := bne_eq_false_iff_eq.mpr c12
                clear c12
                obtain rfl := Option.some.inj H
                go_enter Try.func17, Try.ntmps17
                go_wp2
                go_ret
                exact ⟨by first | rfl | (simp; done) | (simp [*]; done), by repeat (first | exact Drawn0.refl _ | apply Drawn0.step)⟩
              · rw [if_neg c12] at H
                have c12b0 : (a0.toList == ([47] : List UInt8)) = false := beq_eq_false_iff_ne.mpr c12
                have c12b1 : (a0.toList != ([47] : List UInt8)) = true := bne_iff_ne.mpr c12
                by_cases c13 : a0.toList = ([37] : List UInt8)
                · rw [if_pos c13] at H
                  have c13b0 : (a0.toList == ([37] : List UInt8)) = true := beq_iff_eq.mpr c13
                  have c13b1 : (a0.toList != ([37] : List UInt8)) = false := bne_eq_false_iff_eq.mpr c13
                  clear c13
                  obtain rfl := Option.some.inj H
                  go_enter Try.func17, Try.ntmps17
                  go_wp2
                  go_ret
                  exact ⟨by first | rfl | (simp; done) | (simp [*]; done), by repeat (first | exact Drawn0.refl _ | apply Drawn0.step)⟩
                · rw [if_neg c13] at H
                  have c13b0 : (a0.toList == ([37] : List UInt8)) = false := beq_eq_false_iff_ne.mpr c13
                  have c13b1 : (a0.toList != ([37] : List UInt8)) = true := bne_iff_ne.mpr c13
                  obtain rfl := Option.some.inj H
                  go_enter Try.func17, Try.ntmps17
                  go_wp2
                  go_ret
                  exact ⟨by first | rfl | (simp; done) | (simp [*]; done), by repeat (first | exact Drawn0.refl _ | apply Drawn0.step)⟩

/-! ### horariumlaw05_awake: function 16 -/
def horariumlaw05_awake.f  : Option (Bool) := (body_Op.f (⟨#[43]⟩ : ByteArray) 2 3).bind fun t103 => (if t103 = 5 then ((body_Op.f (⟨#[47]⟩ : ByteArray) 7 2).bind fun t104 => (some (t104 == 3))) else (some false))
set_option maxHeartbeats 8000000 in
set_option maxRecDepth 100000 in
theorem horariumlaw05_awake.calls  (r : Bool) (w : World) (h : horariumlaw05_awake.f  = some r) :
    Calls Try.prog 16 #[] w fun e w' => e = .returned (.bool r) ∧ Drawn0 w w' := by
  have H : ((body_Op.f (⟨#[43]⟩ : ByteArray) 2 3).bind fun t103 => (if t103 = 5 then ((body_Op.f (⟨#[47]⟩ : ByteArray) 7 2).bind fun t104 => (some (t104 == 3))) else (some false))) = some r := h
  clear h
  replace H := Option.bind_eq_some_iff.mp H
  obtain ⟨t103, A10, H⟩ := H
  replace H : (if t103 = 5 then ((body_Op.f (⟨#[47]⟩ : ByteArray) 7 2).bind fun t104 => (some (t104 == 3))) else (some false)) = some r := H
  have A1 := Aside0.mk A10
  clear A10
  by_cases c2 : t103 = 5
  · rw [if_pos c2] at H
    have c2b0 : (t103 == 5) = true := beq_iff_eq.mpr c2
    have c2b1 : (t103 != 5) = false := bne_eq_false_iff_eq.mpr c2
    clear c2
    replace H := Option.bind_eq_some_iff.mp H
    obtain ⟨t104, A30, H⟩ := H
    replace H : (some (t104 == 3)) = some r := H
    have A3 := Aside0.mk A30
    clear A30
    obtain rfl := Option.some.inj H
    go_enter Try.func16, Try.ntmps16
    go_wp2_with (first | ((with_reducible refine gate_callee (f := 17) rfl ?_); refine goesL_ (some 1) rfl rfl Try.func17 (by kernel_rfl) rfl #[.string (⟨#[43]⟩ : ByteArray), .int .i64 2, .int .i64 3] rfl (by (try simp only [List.map_toArray, List.map_cons, List.map_nil]); first | done | rfl | (simp only [List.length_drop, List.length_take]; rfl)) ?_; (with_reducible refine (body_Op.calls (⟨#[43]⟩ : ByteArray) 2 3 t103 _ A1.out).mono ?_); rintro e w' ⟨rfl, ⟨nd, rfl⟩⟩; refine ⟨_, rfl, ?_⟩) | (go_at_call 17; (with_reducible refine (body_Op.calls (⟨#[47]⟩ : ByteArray) 7 2 t104 _ A3.out).mono ?_); rintro e w' ⟨rfl, ⟨nd, rfl⟩⟩))
    go_ret
    exact ⟨by first | rfl | (simp; done) | (simp [*]; done), by repeat (first | exact Drawn0.refl _ | apply Drawn0.step)⟩
  · rw [if_neg c2] at H
    have c2b0 : (t103 == 5) = false := beq_eq_false_iff_ne.mpr c2
    have c2b1 : (t103 != 5) = true := bne_iff_ne.mpr c2
    obtain rfl := Option.some.inj H
    go_enter Try.func16, Try.ntmps16
    go_wp2_with (first | ((with_reducible refine gate_callee (f := 17) rfl ?_); refine goesL_ (some 1) rfl rfl Try.func17 (by kernel_rfl) rfl #[.string (⟨#[43]⟩ : ByteArray), .int .i64 2, .int .i64 3] rfl (by (try simp only [List.map_toArray, List.map_cons, List.map_nil]); first | done | rfl | (simp only [List.length_drop, List.length_take]; rfl)) ?_; (with_reducible refine (body_Op.calls (⟨#[43]⟩ : ByteArray) 2 3 t103 _ A1.out).mono ?_); rintro e w' ⟨rfl, ⟨nd, rfl⟩⟩; refine ⟨_, rfl, ?_⟩))
    go_ret
    exact ⟨by first | rfl | (simp; done) | (simp [*]; done), by repeat (first | exact Drawn0.refl _ | apply Drawn0.step)⟩

/-! ### horariumref05_size: function 61 -/
def horariumref05_size.f (a0 : Int) : Option (Int) := if a0 < 0 then (some (IntKind.u64.wrap (-(IntKind.u64.wrap (a0))))) else (some (IntKind.u64.wrap (a0)))
set_option maxHeartbeats 8000000 in
set_option maxRecDepth 100000 in
theorem horariumref05_size.calls (a0 : Int) (r : Int) (w : World) (h : horariumref05_size.f a0 = some r) :
    Calls Try.prog 61 #[.int .i64 a0] w fun e w' => e = .returned (.int .u64 r) ∧ Drawn0 w w' := by
  have H : (if a0 < 0 then (some (IntKind.u64.wrap (-(IntKind.u64.wrap (a0))))) else (some (IntKind.u64.wrap (a0)))) = some r := h
  clear h
  by_cases c2 : a0 < 0
  · rw [if_pos c2] at H
    have c2b0 : decide (a0 < 0) = true := decide_eq_true c2
    clear c2
    obtain rfl := Option.some.inj H
    go_enter Try.func61, Try.ntmps61
    go_wp2
    go_ret
    exact ⟨by first | rfl | (simp; done) | (simp [*]; done), by repeat (first | exact Drawn0.refl _ | apply Drawn0.step)⟩
  · rw [if_neg c2] at H
    have c2b0 : decide (a0 < 0) = false := decide_eq_false c2
    clear c2
    obtain rfl := Option.some.inj H
    go_enter Try.func61, Try.ntmps61
    go_wp2
    go_ret
    exact ⟨by first | rfl | (simp; done) | (simp [*]; done), by repeat (first | exact Drawn0.refl _ | apply Drawn0.step)⟩

/-! ### horariumref05_divide: function 47 -/
/-- (Mine: the printed text falls where two truths are held against each other.) The quotient and what is left, by sizes and signs. -/
def horariumref05_divide.f (a0 : Int) (a1 : Int) : Option (Int × Int) := if a1 = 0 then (some (0, 0)) else ((horariumref05_size.f a0).bind fun t105 => ((horariumref05_size.f a1).bind fun t106 => (if t106 = 0 then (none) else (if a0 < 0 then (if a1 < 0 then (some (wrap64 (IntKind.u64.wrap (Int.tdiv t105 t106)), wrap64 (IntKind.u64.wrap (-(Int.tmod t105 t106))))) else (some (wrap64 (IntKind.u64.wrap (-(IntKind.u64.wrap (Int.tdiv t105 t106)))), wrap64 (IntKind.u64.wrap (-(Int.tmod t105 t106)))))) else (if a1 < 0 then (some (wrap64 (IntKind.u64.wrap (-(IntKind.u64.wrap (Int.tdiv t105 t106)))), wrap64 (Int.tmod t105 t106))) else (some (wrap64 (IntKind.u64.wrap (Int.tdiv t105 t106)), wrap64 (Int.tmod t105 t106))))))))
set_option maxHeartbeats 8000000 in
set_option maxRecDepth 100000 in
theorem horariumref05_divide.calls (a0 : Int) (a1 : Int) (r1 : Int) (r2 : Int) (w : World) (h : horariumref05_divide.f a0 a1 = some (r1, r2)) :
    Calls Try.prog 47 #[.int .i64 a0, .int .i64 a1] w fun e w' => e = .returned (.tuple #[.int .i64 r1, .int .i64 r2]) ∧ Drawn0 w w' := by
  unfold horariumref05_divide.f at h
  by_cases c3 : a1 = 0
  · rw [if_pos c3] at h
    have c3b0 : (a1 == 0) = true := beq_iff_eq.mpr c3
    clear c3
    simp only [Option.some.injEq, Prod.mk.injEq] at h
    obtain ⟨rfl, rfl⟩ := h
    go_enter Try.func47, Try.ntmps47
    go_wp2
    repeat (go_quiet (fail); try go_wp2)
    go_ret2
    exact ⟨by first | rfl | (simp; done) | (simp [*]; done), by repeat (first | exact Drawn0.refl _ | apply Drawn0.step)⟩
  · rw [if_neg c3] at h
    have c3b0 : (a1 == 0) = false := beq_eq_false_iff_ne.mpr c3
    obtain ⟨t105, A40, h⟩ := Option.bind_eq_some_iff.mp h
    have A4 := Aside0.mk A40
    clear A40
    obtain ⟨t106, A50, h⟩ := Option.bind_eq_some_iff.mp h
    have A5 := Aside0.mk A50
    clear A50
    by_cases c6 : t106 = 0
    · rw [if_pos c6] at h
      exact absurd h (by simp)
    · rw [if_neg c6] at h
      have c6b0 : (t106 == 0) = false := beq_eq_false_iff_ne.mpr c6
      have key : (a0 < 0 ∨ ¬ a0 < 0) ∧ (a1 < 0 ∨ ¬ a1 < 0) := ⟨by omega, by omega⟩
      rcases key with ⟨c7 | c7, c8 | c8⟩
      all_goals
        first | rw [if_pos c7] at h | rw [if_neg c7] at h
        first | rw [if_pos c8] at h | rw [if_neg c8] at h
        first | have c7b0 : decide (a0 < 0) = true := decide_eq_true c7 | have c7b0 : decide (a0 < 0) = false := decide_eq_false c7
        first | have c8b0 : decide (a1 < 0) = true := decide_eq_true c8 | have c8b0 : decide (a1 < 0) = false := decide_eq_false c8
        clear c7 c8
        simp only [Option.some.injEq, Prod.mk.injEq] at h
        obtain ⟨rfl, rfl⟩ := h
        go_enter Try.func47, Try.ntmps47
        go_wp2_with (first | (go_at_call 61; (with_reducible refine (horariumref05_size.calls a0 t105 _ A4.out).mono ?_); rintro e w' ⟨rfl, ⟨nd, rfl⟩⟩; (try first | exact ⟨rfl, _, World.drewN_drewN _ _ _⟩ | exact ⟨rfl, _, Eq.trans (World.drewN_drewN _ _ _) (congrArg (World.drewN _) (Nat.add_assoc _ _ _))⟩)) | (go_at_call 61; (with_reducible refine (horariumref05_size.calls a1 t106 _ A5.out).mono ?_); rintro e w' ⟨rfl, ⟨nd, rfl⟩⟩; (try first | exact ⟨rfl, _, World.drewN_drewN _ _ _⟩ | exact ⟨rfl, _, Eq.trans (World.drewN_drewN _ _ _) (congrArg (World.drewN _) (Nat.add_assoc _ _ _))⟩)))
        repeat (go_quiet (first | (go_at_call 61; (with_reducible refine (horariumref05_size.calls a0 t105 _ A4.out).mono ?_); rintro e w' ⟨rfl, ⟨nd, rfl⟩⟩; (try first | exact ⟨rfl, _, World.drewN_drewN _ _ _⟩ | exact ⟨rfl, _, Eq.trans (World.drewN_drewN _ _ _) (congrArg (World.drewN _) (Nat.add_assoc _ _ _))⟩)) | (go_at_call 61; (with_reducible refine (horariumref05_size.calls a1 t106 _ A5.out).mono ?_); rintro e w' ⟨rfl, ⟨nd, rfl⟩⟩; (try first | exact ⟨rfl, _, World.drewN_drewN _ _ _⟩ | exact ⟨rfl, _, Eq.trans (World.drewN_drewN _ _ _) (congrArg (World.drewN _) (Nat.add_assoc _ _ _))⟩))); try go_wp2)
        go_ret2
        exact ⟨by first | rfl | (simp; done) | (simp [*]; done), by repeat (first | exact Drawn0.refl _ | apply Drawn0.step)⟩

/-! ### horariumref05_Op: function 18 -/
def horariumref05_Op.f (a0 : ByteArray) (a1 : Int) (a2 : Int) : Option (Int) := if a0.toList = ([43] : List UInt8) then (some (wrap64 (IntKind.u64.wrap ((IntKind.u64.wrap (a1)) + (IntKind.u64.wrap (a2)))))) else (if a0.toList = ([45] : List UInt8) then (some (wrap64 (IntKind.u64.wrap ((IntKind.u64.wrap ((IntKind.u64.wrap (a1)) + (IntKind.u64.wrap (18446744073709551615 - (IntKind.u64.wrap (a2)))))) + 1)))) else (if a0.toList = ([42] : List UInt8) then (some (wrap64 (IntKind.u64.wrap ((IntKind.u64.wrap (a1)) * (IntKind.u64.wrap (a2)))))) else (if a0.toList = ([60] : List UInt8) then (if a1 < a2 then (some 1) else (some 0)) else (if a0.toList = ([61, 61] : List UInt8) then (if (IntKind.u64.wrap (a1)) = (IntKind.u64.wrap (a2)) then (some 1) else (some 0)) else (if a0.toList = ([47] : List UInt8) then ((horariumref05_divide.f a1 a2).bind fun bt107 => (some bt107.1)) else (if a0.toList = ([37] : List UInt8) then ((horariumref05_divide.f a1 a2).bind fun bt109 => (some bt109.2)) else (some 0)))))))
set_option maxHeartbeats 8000000 in
set_option maxRecDepth 100000 in
theorem horariumref05_Op.calls (a0 : ByteArray) (a1 : Int) (a2 : Int) (r : Int) (w : World) (h : horariumref05_Op.f a0 a1 a2 = some r) :
    Calls Try.prog 18 #[.string a0, .int .i64 a1, .int .i64 a2] w fun e w' => e = .returned (.int .i64 r) ∧ Drawn0 w w' := by
  have H : (if a0.toList = ([43] : List UInt8) then (some (wrap64 (IntKind.u64.wrap ((IntKind.u64.wrap (a1)) + (IntKind.u64.wrap (a2)))))) else (if a0.toList = ([45] : List UInt8) then (some (wrap64 (IntKind.u64.wrap ((IntKind.u64.wrap ((IntKind.u64.wrap (a1)) + (IntKind.u64.wrap (18446744073709551615 - (IntKind.u64.wrap (a2)))))) + 1)))) else (if a0.toList = ([42] : List UInt8) then (some (wrap64 (IntKind.u64.wrap ((IntKind.u64.wrap (a1)) * (IntKind.u64.wrap (a2)))))) else (if a0.toList = ([60] : List UInt8) then (if a1 < a2 then (some 1) else (some 0)) else (if a0.toList = ([61, 61] : List UInt8) then (if (IntKind.u64.wrap (a1)) = (IntKind.u64.wrap (a2)) then (some 1) else (some 0)) else (if a0.toList = ([47] : List UInt8) then ((horariumref05_divide.f a1 a2).bind fun bt107 => (some bt107.1)) else (if a0.toList = ([37] : List UInt8) then ((horariumref05_divide.f a1 a2).bind fun bt109 => (some bt109.2)) else (some 0)))))))) = some r := h
  clear h
  by_cases c4 : a0.toList = ([43] : List UInt8)
  · rw [if_pos c4] at H
    have c4b0 : (a0.toList == ([43] : List UInt8)) = true := beq_iff_eq.mpr c4
    have c4b1 : (a0.toList != ([43] : List UInt8)) = false := bne_eq_false_iff_eq.mpr c4
    clear c4
    obtain rfl := Option.some.inj H
    go_enter Try.func18, Try.ntmps18
    go_wp2
    go_ret
    exact ⟨by first | rfl | (simp; done) | (simp [*]; done), by repeat (first | exact Drawn0.refl _ | apply Drawn0.step)⟩
  · rw [if_neg c4] at H
    have c4b0 : (a0.toList == ([43] : List UInt8)) = false := beq_eq_false_iff_ne.mpr c4
    have c4b1 : (a0.toList != ([43] : List UInt8)) = true := bne_iff_ne.mpr c4
    by_cases c5 : a0.toList = ([45] : List UInt8)
    · rw [if_pos c5] at H
      have c5b0 : (a0.toList == ([45] : List UInt8)) = true := beq_iff_eq.mpr c5
      have c5b1 : (a0.toList != ([45] : List UInt8)) = false := bne_eq_false_iff_eq.mpr c5
      clear c5
      obtain rfl := Option.some.inj H
      go_enter Try.func18, Try.ntmps18
      go_wp2
      go_ret
      exact ⟨by first | rfl | (simp; done) | (simp [*]; done), by repeat (first | exact Drawn0.refl _ | apply Drawn0.step)⟩
    · rw [if_neg c5] at H
      have c5b0 : (a0.toList == ([45] : List UInt8)) = false := beq_eq_false_iff_ne.mpr c5
      have c5b1 : (a0.toList != ([45] : List UInt8)) = true := bne_iff_ne.mpr c5
      by_cases c6 : a0.toList = ([42] : List UInt8)
      · rw [if_pos c6] at H
        have c6b0 : (a0.toList == ([42] : List UInt8)) = true := beq_iff_eq.mpr c6
        have c6b1 : (a0.toList != ([42] : List UInt8)) = false := bne_eq_false_iff_eq.mpr c6
        clear c6
        obtain rfl := Option.some.inj H
        go_enter Try.func18, Try.ntmps18
        go_wp2
        go_ret
        exact ⟨by first | rfl | (simp; done) | (simp [*]; done), by repeat (first | exact Drawn0.refl _ | apply Drawn0.step)⟩
      · rw [if_neg c6] at H
        have c6b0 : (a0.toList == ([42] : List UInt8)) = false := beq_eq_false_iff_ne.mpr c6
        have c6b1 : (a0.toList != ([42] : List UInt8)) = true := bne_iff_ne.mpr c6
        by_cases c7 : a0.toList = ([60] : List UInt8)
        · rw [if_pos c7] at H
          have c7b0 : (a0.toList == ([60] : List UInt8)) = true := beq_iff_eq.mpr c7
          have c7b1 : (a0.toList != ([60] : List UInt8)) = false := bne_eq_false_iff_eq.mpr c7
          clear c7
          by_cases c8 : a1 < a2
          · rw [if_pos c8] at H
            have c8b0 : decide (a1 < a2) = true := decide_eq_true c8
            clear c8
            obtain rfl := Option.some.inj H
            go_enter Try.func18, Try.ntmps18
            go_wp2
            go_ret
            exact ⟨by first | rfl | (simp; done) | (simp [*]; done), by repeat (first | exact Drawn0.refl _ | apply Drawn0.step)⟩
          · rw [if_neg c8] at H
            have c8b0 : decide (a1 < a2) = false := decide_eq_false c8
            clear c8
            obtain rfl := Option.some.inj H
            go_enter Try.func18, Try.ntmps18
            go_wp2
            go_ret
            exact ⟨by first | rfl | (simp; done) | (simp [*]; done), by repeat (first | exact Drawn0.refl _ | apply Drawn0.step)⟩
        · rw [if_neg c7] at H
          have c7b0 : (a0.toList == ([60] : List UInt8)) = false := beq_eq_false_iff_ne.mpr c7
          have c7b1 : (a0.toList != ([60] : List UInt8)) = true := bne_iff_ne.mpr c7
          by_cases c9 : a0.toList = ([61, 61] : List UInt8)
          · rw [if_pos c9] at H
            have c9b0 : (a0.toList == ([61, 61] : List UInt8)) = true := beq_iff_eq.mpr c9
            have c9b1 : (a0.toList != ([61, 61] : List UInt8)) = false := bne_eq_false_iff_eq.mpr c9
            clear c9
            by_cases c10 : (IntKind.u64.wrap (a1)) = (IntKind.u64.wrap (a2))
            · rw [if_pos c10] at H
              have c10b0 : ((IntKind.u64.wrap (a1)) == (IntKind.u64.wrap (a2))) = true := beq_iff_eq.mpr c10
              have c10b1 : ((IntKind.u64.wrap (a1)) != (IntKind.u64.wrap (a2))) = false := bne_eq_false_iff_eq.mpr c10
              clear c10
              obtain rfl := Option.some.inj H
              go_enter Try.func18, Try.ntmps18
              go_wp2
              go_ret
              exact ⟨by first | rfl | (simp; done) | (simp [*]; done), by repeat (first | exact Drawn0.refl _ | apply Drawn0.step)⟩
            · rw [if_neg c10] at H
              have c10b0 : ((IntKind.u64.wrap (a1)) == (IntKind.u64.wrap (a2))) = false := beq_eq_false_iff_ne.mpr c10
              have c10b1 : ((IntKind.u64.wrap (a1)) != (IntKind.u64.wrap (a2))) = true := bne_iff_ne.mpr c10
              obtain rfl := Option.some.inj H
              go_enter Try.func18, Try.ntmps18
              go_wp2
              go_ret
              exact ⟨by first | rfl | (simp; done) | (simp [*]; done), by repeat (first | exact Drawn0.refl _ | apply Drawn0.step)⟩
          · rw [if_neg c9] at H
            have c9b0 : (a0.toList == ([61, 61] : List UInt8)) = false := beq_eq_false_iff_ne.mpr c9
            have c9b1 : (a0.toList != ([61, 61] : List UInt8)) = true := bne_iff_ne.mpr c9
            by_cases c11 : a0.toList = ([47] : List UInt8)
            · rw [if_pos c11] at H
              have c11b0 : (a0.toList == ([47] : List UInt8)) = true := beq_iff_eq.mpr c11
              have c11b1 : (a0.toList != ([47] : List UInt8)) = false := bne_eq_false_iff_eq.mpr c11
              clear c11
              replace H := Option.bind_eq_some_iff.mp H
              obtain ⟨⟨t107, t108⟩, A120, H⟩ := H
              replace H : (some t107) = some r := H
              have A12 := Aside0.mk A120
              clear A120
              obtain rfl := Option.some.inj H
              go_enter Try.func18, Try.ntmps18
              go_wp2_with (first | ((with_reducible refine gate_callee (f := 47) rfl ?_); refine goesL_ (some 53) rfl rfl Try.func47 (by kernel_rfl) rfl #[.int .i64 a1, .int .i64 a2] rfl (by (try simp only [List.map_toArray, List.map_cons, List.map_nil]); first | done | rfl | (simp only [List.length_drop, List.length_take]; rfl)) ?_; (with_reducible refine (horariumref05_divide.calls a1 a2 t107 t108 _ A12.out).mono ?_); rintro e w' ⟨rfl, ⟨nd, rfl⟩⟩; refine ⟨_, rfl, ?_⟩))
              go_ret
              exact ⟨by first | rfl | (simp; done) | (simp [*]; done), by repeat (first | exact Drawn0.refl _ | apply Drawn0.step)⟩
            · rw [if_neg c11] at H
              have c11b0 : (a0.toList == ([47] : List UInt8)) = false := beq_eq_false_iff_ne.mpr c11
              have c11b1 : (a0.toList != ([47] : List UInt8)) = true := bne_iff_ne.mpr c11
              by_cases c13 : a0.toList = ([37] : List UInt8)
              · rw [if_pos c13] at H
                have c13b0 : (a0.toList == ([37] : List UInt8)) = true := beq_iff_eq.mpr c13
                have c13b1 : (a0.toList != ([37] : List UInt8)) = false := bne_eq_false_iff_eq.mpr c13
                clear c13
                replace H := Option.bind_eq_some_iff.mp H
                obtain ⟨⟨t109, t110⟩, A140, H⟩ := H
                replace H : (some t110) = some r := H
                have A14 := Aside0.mk A140
                clear A140
                obtain rfl := Option.some.inj H
                go_enter Try.func18, Try.ntmps18
                go_wp2_with (first | ((with_reducible refine gate_callee (f := 47) rfl ?_); refine goesL_ (some 62) rfl rfl Try.func47 (by kernel_rfl) rfl #[.int .i64 a1, .int .i64 a2] rfl (by (try simp only [List.map_toArray, List.map_cons, List.map_nil]); first | done | rfl | (simp only [List.length_drop, List.length_take]; rfl)) ?_; (with_reducible refine (horariumref05_divide.calls a1 a2 t109 t110 _ A14.out).mono ?_); rintro e w' ⟨rfl, ⟨nd, rfl⟩⟩; refine ⟨_, rfl, ?_⟩))
                go_ret
                exact ⟨by first | rfl | (simp; done) | (simp [*]; done), by repeat (first | exact Drawn0.refl _ | apply Drawn0.step)⟩
              · rw [if_neg c13] at H
                have c13b0 : (a0.toList == ([37] : List UInt8)) = false := beq_eq_false_iff_ne.mpr c13
                have c13b1 : (a0.toList != ([37] : List UInt8)) = true := bne_iff_ne.mpr c13
                obtain rfl := Option.some.inj H
                go_enter Try.func18, Try.ntmps18
                go_wp2
                go_ret
                exact ⟨by first | rfl | (simp; done) | (simp [*]; done), by repeat (first | exact Drawn0.refl _ | apply Drawn0.step)⟩

/-! ### horariumlaw05_BodyOps: function 3 -/
def horariumlaw05_BodyOps.f (a0 : ByteArray) (a1 : Int) (a2 : Int) : Option (Bool) := (horariumlaw05_awake.f).bind fun t111 => (if t111 = true then ((body_Op.f a0 a1 a2).bind fun t112 => ((horariumref05_Op.f a0 a1 a2).bind fun t113 => (some (t112 == t113)))) else (some false))
set_option maxHeartbeats 8000000 in
set_option maxRecDepth 100000 in
theorem horariumlaw05_BodyOps.calls (a0 : ByteArray) (a1 : Int) (a2 : Int) (r : Bool) (w : World) (h : horariumlaw05_BodyOps.f a0 a1 a2 = some r) :
    Calls Try.prog 3 #[.string a0, .int .i64 a1, .int .i64 a2] w fun e w' => e = .returned (.bool r) ∧ Drawn0 w w' := by
  have H : ((horariumlaw05_awake.f).bind fun t111 => (if t111 = true then ((body_Op.f a0 a1 a2).bind fun t112 => ((horariumref05_Op.f a0 a1 a2).bind fun t113 => (some (t112 == t113)))) else (some false))) = some r := h
  clear h
  replace H := Option.bind_eq_some_iff.mp H
  obtain ⟨t111, A40, H⟩ := H
  replace H : (if t111 = true then ((body_Op.f a0 a1 a2).bind fun t112 => ((horariumref05_Op.f a0 a1 a2).bind fun t113 => (some (t112 == t113)))) else (some false)) = some r := H
  have A4 := Aside0.mk A40
  clear A40
  by_cases c5 : t111 = true
  · subst c5
    have H1 : ((body_Op.f a0 a1 a2).bind fun t112 => ((horariumref05_Op.f a0 a1 a2).bind fun t113 => (some (t112 == t113)))) = some r := by rw [if_pos rfl] at H; exact H
    clear H
    have H := H1
    clear H1
    replace H := Option.bind_eq_some_iff.mp H
    obtain ⟨t112, A60, H⟩ := H
    replace H : ((horariumref05_Op.f a0 a1 a2).bind fun t113 => (some (t112 == t113))) = some r := H
    have A6 := Aside0.mk A60
    clear A60
    replace H := Option.bind_eq_some_iff.mp H
    obtain ⟨t113, A70, H⟩ := H
    replace H : (some (t112 == t113)) = some r := H
    have A7 := Aside0.mk A70
    clear A70
    obtain rfl := Option.some.inj H
    go_enter Try.func3, Try.ntmps3
    go_wp2_with (first | ((with_reducible refine gate_callee (f := 16) rfl ?_); refine goesL_ (some 7) rfl rfl Try.func16 (by kernel_rfl) rfl #[] rfl (by (try simp only [List.map_toArray, List.map_cons, List.map_nil]); first | done | rfl | (simp only [List.length_drop, List.length_take]; rfl)) ?_; (with_reducible refine (horariumlaw05_awake.calls  true _ A4.out).mono ?_); rintro e w' ⟨rfl, ⟨nd, rfl⟩⟩; refine ⟨_, rfl, ?_⟩) | (go_at_call 17; (with_reducible refine (body_Op.calls a0 a1 a2 t112 _ A6.out).mono ?_); rintro e w' ⟨rfl, ⟨nd, rfl⟩⟩) | (go_at_call 18; (with_reducible refine (horariumref05_Op.calls a0 a1 a2 t113 _ A7.out).mono ?_); rintro e w' ⟨rfl, ⟨nd, rfl⟩⟩))
    go_ret
    exact ⟨by first | rfl | (simp; done) | (simp [*]; done), by repeat (first | exact Drawn0.refl _ | apply Drawn0.step)⟩
  · replace c5 := Bool.eq_false_iff.mpr c5
    subst c5
    have H1 : (some false) = some r := by rw [if_neg (show ¬ (false = true) by decide)] at H; exact H
    clear H
    have H := H1
    clear H1
    obtain rfl := Option.some.inj H
    go_enter Try.func3, Try.ntmps3
    go_wp2_with (first | ((with_reducible refine gate_callee (f := 16) rfl ?_); refine goesL_ (some 7) rfl rfl Try.func16 (by kernel_rfl) rfl #[] rfl (by (try simp only [List.map_toArray, List.map_cons, List.map_nil]); first | done | rfl | (simp only [List.length_drop, List.length_take]; rfl)) ?_; (with_reducible refine (horariumlaw05_awake.calls  false _ A4.out).mono ?_); rintro e w' ⟨rfl, ⟨nd, rfl⟩⟩; refine ⟨_, rfl, ?_⟩))
    go_ret
    exact ⟨by first | rfl | (simp; done) | (simp [*]; done), by repeat (first | exact Drawn0.refl _ | apply Drawn0.step)⟩

/-- THE ONE PURE STATEMENT of horariumlaw05_BodyOps: yours. -/
def horariumlaw05_BodyOps.Pure : Prop := ∀ (a0 : ByteArray) (a1 : Int) (a2 : Int), a0.size ≤ 140737488351232 → (Lit.int .i64 a1).wf = true → (Lit.int .i64 a2).wf = true → horariumlaw05_BodyOps.f a0 a1 a2 = some true
theorem horariumlaw05_BodyOps.walk (P : horariumlaw05_BodyOps.Pure) (a0 : ByteArray) (a1 : Int) (a2 : Int) (w : World) (w0 : a0.size ≤ 140737488351232) (w1 : (Lit.int .i64 a1).wf = true) (w2 : (Lit.int .i64 a2).wf = true) :
    Calls Try.prog 3 #[.string a0, .int .i64 a1, .int .i64 a2] w fun e w' => e = .returned (.bool true) ∧ Below w.heap.size w w' := by
  have h := P a0 a1 a2 w0 w1 w2
  refine (horariumlaw05_BodyOps.calls a0 a1 a2 true w h).mono ?_
  rintro e w' ⟨rfl, hd⟩
  exact ⟨rfl, hd.below⟩

end Go.Proofs.Ytkiaglpkijhbmaa.PBodyOps
