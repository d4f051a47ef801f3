import Derived.Test.YtohmmfimedgccaaQF4
/- CheckFinds returns true at every input. PART 6 OF 8: G55 G65 G92 G123 PG PH G23 G25 G91 G50 -/
section
namespace Go.Proofs.Ytohmmfimedgccaa.E
set_option maxRecDepth 100000
set_option maxHeartbeats 4000000
set_option linter.unusedVariables false
set_option linter.unusedSimpArgs false
noncomputable def check_solver_of_L0 (a1 : Expr) (f_check_solver_of : check_solver → Expr → Option ((Clock × Bool) × check_solver)) : (Int × check_solver × (Mp Clock) × Clock) → Option ((Int × check_solver × (Mp Clock) × Clock) ⊕ (((Clock × Bool) × check_solver) ⊕ (check_solver × (Mp Clock) × Clock)))
 | (v37_16, v0_17, v0_2_18, v4_19) =>
  if (decide (v37_16 < ((List.length a1.args : Nat) : Int))) then
   ((getI a1.args v37_16).bind fun y28 =>
   (f_check_solver_of (check_solver.mk v0_17.finder v0_2_18) y28).bind fun y31 =>
   if y31.1.2 then
    some (.inl ((y31.1.1, true), (check_solver.mk y31.2.finder y31.2.known)))
   else
    some (.inr ((check_solver.mk y31.2.finder y31.2.known), y31.2.known, v4_19)) : Option (((Clock × Bool) × check_solver) ⊕ (check_solver × (Mp Clock) × Clock))).bind fun x => match x with
   | .inl r => some (.inr (.inl r))
   | .inr (v0_25, v0_2_26, v4_27) =>
    some (.inl ((IntKind.i64.wrap (v37_16 + (1 : Int))), (check_solver.mk v0_25.finder v0_2_26), v0_2_26, v4_27))
  else
   some (.inr (.inr ((check_solver.mk v0_17.finder v0_2_18), v0_2_18, v4_19)))
noncomputable def B_check_solver_of (f_check_solver_of : check_solver → Expr → Option ((Clock × Bool) × check_solver)) (f_clock_Apply : Clock → Op → Option (Clock × Int)) (f_check_finder_fail_in_check_solver : check_solver → Int → Int → Option (Unit × check_solver)) (a0 : check_solver) (a1 : Expr) : Option ((Clock × Bool) × check_solver) :=
 (if (decide (a1.kind = (1 : Int))) then
  some (.inl (((Option.getD (Mp.get a0.known a1.name) (Clock.mk (0 : Int) (0 : Int))), (Option.isSome (Mp.get a0.known a1.name))), (check_solver.mk a0.finder a0.known)))
 else
  if (decide (a1.kind = (2 : Int))) then
   (iterO (check_solver_of_L0 a1 f_check_solver_of) ((0 : Int), (check_solver.mk a0.finder a0.known), a0.known, (Clock.mk (0 : Int) (0 : Int))) : Option (((Clock × Bool) × check_solver) ⊕ (check_solver × (Mp Clock) × Clock))).bind fun x => match x with
   | .inl r => some (.inl r)
   | .inr (v0_13, v0_2_14, v4_15) =>
    some (.inl (((Clock.mk (0 : Int) (0 : Int)), false), (check_solver.mk v0_13.finder v0_2_14)))
  else
   some (.inr ((check_solver.mk a0.finder a0.known), a0.known, (Clock.mk (0 : Int) (0 : Int)))) : Option (((Clock × Bool) × check_solver) ⊕ (check_solver × (Mp Clock) × Clock))).bind fun x => match x with
 | .inl r => some r
 | .inr (v0_3, v0_2_4, v4_5) =>
  (getI a1.args (0 : Int)).bind fun y40 =>
  (f_check_solver_of (check_solver.mk v0_3.finder v0_2_4) y40).bind fun y42 =>
  if ((!y42.1.2) || (!decide (y42.2.finder.e = (0 : Int)))) then
   some (((Clock.mk (0 : Int) (0 : Int)), false), (check_solver.mk y42.2.finder y42.2.known))
  else
   (f_clock_Apply y42.1.1 (Op.mk a1.kind a1.n a1.d)).bind fun y49 =>
   if (!decide (y49.2 = (0 : Int))) then
    (f_check_finder_fail_in_check_solver (check_solver.mk y42.2.finder y42.2.known) a1.at_ y49.2).bind fun y52 =>
    some (((Clock.mk (0 : Int) (0 : Int)), false), (check_solver.mk y52.2.finder y52.2.known))
   else
    some ((y49.1, true), (check_solver.mk y42.2.finder y42.2.known))
abbrev check_solver_of_V0 : Clock → PV := fun v : Clock => (PV.ag [(.v (.int .i64 v.period)), (.v (.int .i64 v.phase))])
abbrev check_solver_of_A0 (a1 : Expr) : List PV := [(.v (.int .i64 a1.kind)), (.v (.string a1.name)), (.v (.int .i64 a1.n)), (.v (.int .i64 a1.d)), (.sl (Expr.rows a1.args)), (.v (.int .i64 a1.at_))]
theorem W_check_solver_of (f_check_solver_of : check_solver → Expr → Option ((Clock × Bool) × check_solver)) (f_clock_Apply : Clock → Op → Option (Clock × Int)) (f_check_finder_fail_in_check_solver : check_solver → Int → Int → Option (Unit × check_solver)) (S_check_solver_of : Sat_check_solver_of f_check_solver_of) (S_clock_Apply : Sat_clock_Apply f_clock_Apply) (S_check_finder_fail_in_check_solver : Sat_check_finder_fail_in_check_solver f_check_finder_fail_in_check_solver) : Sat_check_solver_of (B_check_solver_of f_check_solver_of f_clock_Apply f_check_finder_fail_in_check_solver) := by
 intro a0 a1 r h σ K j0 j0_2 H0 H0_2 hK
 refine w_fq (Q := fun r s => ∃ l : List (Nat × AObj), (l.map (·.1)).Nodup ∧ (∀ x ∈ l, x.1 < σ.length ∧ ClO σ.length x.2) ∧ Pq σ l K r s) Try.func55 rfl rfl (by kernel_rfl) (fun _ _ h => h) ?_
 unfold B_check_solver_of at h
 have hP := Pre.refl σ
 have jl0 := H0.lt
 have jl0_2 := H0_2.lt
 have hF := Fr.refl σ [j0, j0_2]
 have E0 : argE [(.pt j0 0), (.ag (check_solver_of_A0 a1))] 0 = (.pt j0 0) := rfl
 have E1 : argE [(.pt j0 0), (.ag (check_solver_of_A0 a1))] 1 = (.ag (check_solver_of_A0 a1)) := rfl
 have TT := cj13 Expr.rlen T_106 T_119 T_120 T_121 T_123 T_2 T_3 T_30 T_37 T_39 T_43 T_9
 refine w_sa (fun e s => ∃ i3 i4 : Nat, ∃ τ : Store, Gx s j0 (AObj.box 123 [(.v (.int .i64 a0.finder.at_)), (.v (.int .i64 a0.finder.e)), (.mp j0_2)]) ∧ Gx s j0_2 (AObj.map .s (mpF check_solver_of_V0 (Mp.get a0.known)) (Mp.n a0.known)) ∧ Bx σ s i3 39 (check_solver_of_A0 a1) ∧ Bx σ s i4 43 [(.v (.int .i64 (0 : Int))), (.v (.int .i64 (0 : Int)))] ∧ e 0 = (.pt j0 0) ∧ e 3 = (.pt i3 0) ∧ e 4 = (.pt i4 0) ∧ j0 ≠ i3 ∧ j0 ≠ i4 ∧ i3 ≠ i4 ∧ Fr σ τ [j0, j0_2] ∧ Pre τ s) ?_ fun e s hI => ?_
 ·refine w_x (cj9 E0 E1 H0.get H0.any H0.any2 H0_2.get H0_2.any H0_2.any2 TT) (k := ?_)
  have q1 := cj9 E0 E1 H0.get H0.any H0.any2 H0_2.get H0_2.any H0_2.any2 TT
  have q2 := Bx.newf hF hP 39 (check_solver_of_A0 a1)
  exact cw_n ⟨_, WkE.refl _, σ.length, (σ ++ [some (AObj.box 39 (check_solver_of_A0 a1))]).length, σ, ((H0.app [some (AObj.box 39 (check_solver_of_A0 a1))]).app [some (AObj.box 43 [(.v (.int .i64 (0 : Int))), (.v (.int .i64 (0 : Int)))])]), ((H0_2.app [some (AObj.box 39 (check_solver_of_A0 a1))]).app [some (AObj.box 43 [(.v (.int .i64 (0 : Int))), (.v (.int .i64 (0 : Int)))])]), (q2.app [some (AObj.box 43 [(.v (.int .i64 (0 : Int))), (.v (.int .i64 (0 : Int)))])]), (Bx.newf hF (hP.app _) 43 [(.v (.int .i64 (0 : Int))), (.v (.int .i64 (0 : Int)))]), (xv q1), (xv q1), (xv q1), (Nat.ne_of_lt H0.lt), (Nat.ne_of_lt (H0.app [some (AObj.box 39 (check_solver_of_A0 a1))]).lt), (Nat.ne_of_lt q2.lt), hF, ((hP.app _).app _)⟩
 obtain ⟨i3, i4, τ, X0, X0_2, X3, X4, E0, E3, E4, N0__3, N0__4, N3__4, hF, hP⟩ := hI
 refine w_assoc ?_
 refine w_sa (fun e s => ∃ τ : Store, Gx s j0 (AObj.box 123 [(.v (.int .i64 a0.finder.at_)), (.v (.int .i64 a0.finder.e)), (.mp j0_2)]) ∧ Gx s j0_2 (AObj.map .s (mpF check_solver_of_V0 (Mp.get a0.known)) (Mp.n a0.known)) ∧ Bx σ s i3 39 (check_solver_of_A0 a1) ∧ Bx σ s i4 43 [(.v (.int .i64 (0 : Int))), (.v (.int .i64 (0 : Int)))] ∧ e 0 = (.pt j0 0) ∧ e 3 = (.pt i3 0) ∧ e 4 = (.pt i4 0) ∧ e 17 = (.v (.int .i64 a1.kind)) ∧ j0 ≠ i3 ∧ j0 ≠ i4 ∧ i3 ≠ i4 ∧ Fr σ τ [j0, j0_2] ∧ Pre τ s) ?_ fun e s hI => ?_
 ·refine w_x (cj8 E0 E3 E4 X0.get X0_2.get X3.get X4.get TT) (k := ?_)
  have q3 := cj8 E0 E3 E4 X0.get X0_2.get X3.get X4.get TT
  exact cw_n ⟨_, WkE.refl _, τ, X0, X0_2, X3, X4, (xv q3), (xv q3), (xv q3), (xv q3), N0__3, N0__4, N3__4, hF, hP⟩
 obtain ⟨τ, X0, X0_2, X3, X4, E0, E3, E4, E17, N0__3, N0__4, N3__4, hF, hP⟩ := hI
 obtain ⟨x1, h2, h⟩ := bnd_some h
 refine w_sa (fun e s => ∃ v0_3 : check_solver, ∃ v0_2_4 : (Mp Clock), ∃ v4_5 : Clock, ∃ τ : Store, .inr (v0_3, v0_2_4, v4_5) = x1 ∧ Gx s j0 (AObj.box 123 [(.v (.int .i64 v0_3.finder.at_)), (.v (.int .i64 v0_3.finder.e)), (.mp j0_2)]) ∧ Gx s j0_2 (AObj.map .s (mpF check_solver_of_V0 (Mp.get v0_2_4)) (Mp.n v0_2_4)) ∧ Bx σ s i3 39 (check_solver_of_A0 a1) ∧ Bx σ s i4 43 [(.v (.int .i64 v4_5.period)), (.v (.int .i64 v4_5.phase))] ∧ e 0 = (.pt j0 0) ∧ e 3 = (.pt i3 0) ∧ e 4 = (.pt i4 0) ∧ j0 ≠ i3 ∧ j0 ≠ i4 ∧ i3 ≠ i4 ∧ Fr σ τ [j0, j0_2] ∧ Pre τ s) ?_ fun e s hI => ?_
 ·refine w_block ?_
  refine w_sa (fun e s => ∃ τ : Store, Gx s j0 (AObj.box 123 [(.v (.int .i64 a0.finder.at_)), (.v (.int .i64 a0.finder.e)), (.mp j0_2)]) ∧ Gx s j0_2 (AObj.map .s (mpF check_solver_of_V0 (Mp.get a0.known)) (Mp.n a0.known)) ∧ Bx σ s i3 39 (check_solver_of_A0 a1) ∧ Bx σ s i4 43 [(.v (.int .i64 (0 : Int))), (.v (.int .i64 (0 : Int)))] ∧ e 0 = (.pt j0 0) ∧ e 3 = (.pt i3 0) ∧ e 4 = (.pt i4 0) ∧ e 17 = (.v (.int .i64 a1.kind)) ∧ e 18 = (.v (.bool (decide (a1.kind = (1 : Int))))) ∧ j0 ≠ i3 ∧ j0 ≠ i4 ∧ i3 ≠ i4 ∧ Fr σ τ [j0, j0_2] ∧ Pre τ s) ?_ fun e s hI => ?_
  ·refine w_x (cj9 E0 E3 E4 E17 X0.get X0_2.get X3.get X4.get TT) (k := ?_)
   have q4 := cj9 E0 E3 E4 E17 X0.get X0_2.get X3.get X4.get TT
   exact cw_n ⟨_, WkE.refl _, τ, X0, X0_2, X3, X4, (xv q4), (xv q4), (xv q4), (xv q4), (xv q4), N0__3, N0__4, N3__4, hF, hP⟩
  obtain ⟨τ, X0, X0_2, X3, X4, E0, E3, E4, E17, E18, N0__3, N0__4, N3__4, hF, hP⟩ := hI
  rcases ite_some h2 with ⟨hb6, h2⟩ | ⟨hb6, h2⟩
  ·refine xt (cj6 E0 E3 E4 E17 E18 hb6) ?_
   refine w_sa (fun e s => ∃ i6 : Nat, ∃ τ : Store, Gx s j0 (AObj.box 123 [(.v (.int .i64 a0.finder.at_)), (.v (.int .i64 a0.finder.e)), (.mp j0_2)]) ∧ Gx s j0_2 (AObj.map .s (mpF check_solver_of_V0 (Mp.get a0.known)) (Mp.n a0.known)) ∧ Bx σ s i4 43 [(.v (.int .i64 (0 : Int))), (.v (.int .i64 (0 : Int)))] ∧ Bx σ s i6 43 [(.v (.int .i64 ((Option.getD (Mp.get a0.known a1.name) (Clock.mk (0 : Int) (0 : Int))).period))), (.v (.int .i64 ((Option.getD (Mp.get a0.known a1.name) (Clock.mk (0 : Int) (0 : Int))).phase)))] ∧ e 4 = (.pt i4 0) ∧ e 6 = (.pt i6 0) ∧ e 7 = (.v (.bool (Option.isSome (Mp.get a0.known a1.name)))) ∧ j0 ≠ i4 ∧ j0 ≠ i6 ∧ i4 ≠ i6 ∧ Fr σ τ [j0, j0_2] ∧ Pre τ s) ?_ fun e s hI => ?_
   ·have R7 : Option.getD (Option.map check_solver_of_V0 (Mp.get a0.known a1.name)) (.ag [(.v (.int .i64 (0 : Int))), (.v (.int .i64 (0 : Int)))]) = (.ag [(.v (.int .i64 ((Option.getD (Mp.get a0.known a1.name) (Clock.mk (0 : Int) (0 : Int))).period))), (.v (.int .i64 ((Option.getD (Mp.get a0.known a1.name) (Clock.mk (0 : Int) (0 : Int))).phase)))]) := by cases Mp.get a0.known a1.name <;> rfl
    refine w_xd 12 1 (cj5 E0 E3 E4 E17 (cj20 E18 X0.get X0.any X0.any2 X0_2.get X0_2.any X0_2.any2 X3.get X3.any X3.any2 X4.get X4.any X4.any2 R7 (X0.app [some (AObj.box 43 [(.v (.int .i64 ((Option.getD (Mp.get a0.known a1.name) (Clock.mk (0 : Int) (0 : Int))).period))), (.v (.int .i64 ((Option.getD (Mp.get a0.known a1.name) (Clock.mk (0 : Int) (0 : Int))).phase)))])]).get (X0_2.app [some (AObj.box 43 [(.v (.int .i64 ((Option.getD (Mp.get a0.known a1.name) (Clock.mk (0 : Int) (0 : Int))).period))), (.v (.int .i64 ((Option.getD (Mp.get a0.known a1.name) (Clock.mk (0 : Int) (0 : Int))).phase)))])]).get (X3.app [some (AObj.box 43 [(.v (.int .i64 ((Option.getD (Mp.get a0.known a1.name) (Clock.mk (0 : Int) (0 : Int))).period))), (.v (.int .i64 ((Option.getD (Mp.get a0.known a1.name) (Clock.mk (0 : Int) (0 : Int))).phase)))])]).get (X4.app [some (AObj.box 43 [(.v (.int .i64 ((Option.getD (Mp.get a0.known a1.name) (Clock.mk (0 : Int) (0 : Int))).period))), (.v (.int .i64 ((Option.getD (Mp.get a0.known a1.name) (Clock.mk (0 : Int) (0 : Int))).phase)))])]).get (Bx.atf hF hP (l := [some (AObj.box 43 [(.v (.int .i64 ((Option.getD (Mp.get a0.known a1.name) (Clock.mk (0 : Int) (0 : Int))).period))), (.v (.int .i64 ((Option.getD (Mp.get a0.known a1.name) (Clock.mk (0 : Int) (0 : Int))).phase)))])]) (j := 0) (t := 43) (c := [(.v (.int .i64 ((Option.getD (Mp.get a0.known a1.name) (Clock.mk (0 : Int) (0 : Int))).period))), (.v (.int .i64 ((Option.getD (Mp.get a0.known a1.name) (Clock.mk (0 : Int) (0 : Int))).phase)))]) rfl).get TT)) (hk := ?_)
    refine w_xs (cj5 E0 E3 E4 E17 (cj20 E18 X0.get X0.any X0.any2 X0_2.get X0_2.any X0_2.any2 X3.get X3.any X3.any2 X4.get X4.any X4.any2 R7 (X0.app [some (AObj.box 43 [(.v (.int .i64 ((Option.getD (Mp.get a0.known a1.name) (Clock.mk (0 : Int) (0 : Int))).period))), (.v (.int .i64 ((Option.getD (Mp.get a0.known a1.name) (Clock.mk (0 : Int) (0 : Int))).phase)))])]).get (X0_2.app [some (AObj.box 43 [(.v (.int .i64 ((Option.getD (Mp.get a0.known a1.name) (Clock.mk (0 : Int) (0 : Int))).period))), (.v (.int .i64 ((Option.getD (Mp.get a0.known a1.name) (Clock.mk (0 : Int) (0 : Int))).phase)))])]).get (X3.app [some (AObj.box 43 [(.v (.int .i64 ((Option.getD (Mp.get a0.known a1.name) (Clock.mk (0 : Int) (0 : Int))).period))), (.v (.int .i64 ((Option.getD (Mp.get a0.known a1.name) (Clock.mk (0 : Int) (0 : Int))).phase)))])]).get (X4.app [some (AObj.box 43 [(.v (.int .i64 ((Option.getD (Mp.get a0.known a1.name) (Clock.mk (0 : Int) (0 : Int))).period))), (.v (.int .i64 ((Option.getD (Mp.get a0.known a1.name) (Clock.mk (0 : Int) (0 : Int))).phase)))])]).get (Bx.atf hF hP (l := [some (AObj.box 43 [(.v (.int .i64 ((Option.getD (Mp.get a0.known a1.name) (Clock.mk (0 : Int) (0 : Int))).period))), (.v (.int .i64 ((Option.getD (Mp.get a0.known a1.name) (Clock.mk (0 : Int) (0 : Int))).phase)))])]) (j := 0) (t := 43) (c := [(.v (.int .i64 ((Option.getD (Mp.get a0.known a1.name) (Clock.mk (0 : Int) (0 : Int))).period))), (.v (.int .i64 ((Option.getD (Mp.get a0.known a1.name) (Clock.mk (0 : Int) (0 : Int))).phase)))]) rfl).get TT)) (k := ?_)
    have q5 := X0.app [some (AObj.box 43 [(.v (.int .i64 ((Option.getD (Mp.get a0.known a1.name) (Clock.mk (0 : Int) (0 : Int))).period))), (.v (.int .i64 ((Option.getD (Mp.get a0.known a1.name) (Clock.mk (0 : Int) (0 : Int))).phase)))])]
    have q6 := X4.app [some (AObj.box 43 [(.v (.int .i64 ((Option.getD (Mp.get a0.known a1.name) (Clock.mk (0 : Int) (0 : Int))).period))), (.v (.int .i64 ((Option.getD (Mp.get a0.known a1.name) (Clock.mk (0 : Int) (0 : Int))).phase)))])]
    have q7 := X3.app [some (AObj.box 43 [(.v (.int .i64 ((Option.getD (Mp.get a0.known a1.name) (Clock.mk (0 : Int) (0 : Int))).period))), (.v (.int .i64 ((Option.getD (Mp.get a0.known a1.name) (Clock.mk (0 : Int) (0 : Int))).phase)))])]
    have q8 := Bx.atf hF hP (l := [some (AObj.box 43 [(.v (.int .i64 ((Option.getD (Mp.get a0.known a1.name) (Clock.mk (0 : Int) (0 : Int))).period))), (.v (.int .i64 ((Option.getD (Mp.get a0.known a1.name) (Clock.mk (0 : Int) (0 : Int))).phase)))])]) (j := 0) (t := 43) (c := [(.v (.int .i64 ((Option.getD (Mp.get a0.known a1.name) (Clock.mk (0 : Int) (0 : Int))).period))), (.v (.int .i64 ((Option.getD (Mp.get a0.known a1.name) (Clock.mk (0 : Int) (0 : Int))).phase)))]) rfl
    have q9 := cj20 E18 X0.get X0.any X0.any2 X0_2.get X0_2.any X0_2.any2 X3.get X3.any X3.any2 X4.get X4.any X4.any2 R7 q5.get (X0_2.app [some (AObj.box 43 [(.v (.int .i64 ((Option.getD (Mp.get a0.known a1.name) (Clock.mk (0 : Int) (0 : Int))).period))), (.v (.int .i64 ((Option.getD (Mp.get a0.known a1.name) (Clock.mk (0 : Int) (0 : Int))).phase)))])]).get q7.get q6.get q8.get TT
    have q10 := cj5 E0 E3 E4 E17 q9
    exact cw_n ⟨_, WkE.refl _, (s.length), τ, q5, (X0_2.app [some (AObj.box 43 [(.v (.int .i64 ((Option.getD (Mp.get a0.known a1.name) (Clock.mk (0 : Int) (0 : Int))).period))), (.v (.int .i64 ((Option.getD (Mp.get a0.known a1.name) (Clock.mk (0 : Int) (0 : Int))).phase)))])]), q6, q8, (xv q10), (xv q10), (xv q10), N0__4, (Nat.ne_of_lt X0.lt), (Nat.ne_of_lt X4.lt), hF, (hP.app [some (AObj.box 43 [(.v (.int .i64 ((Option.getD (Mp.get a0.known a1.name) (Clock.mk (0 : Int) (0 : Int))).period))), (.v (.int .i64 ((Option.getD (Mp.get a0.known a1.name) (Clock.mk (0 : Int) (0 : Int))).phase)))])])⟩
   obtain ⟨i6, τ, X0, X0_2, X4, X6, E4, E6, E7, N0__4, N0__6, N4__6, hF, hP⟩ := hI
   refine w_sa (fun e s => ∃ τ : Store, Gx s j0 (AObj.box 123 [(.v (.int .i64 a0.finder.at_)), (.v (.int .i64 a0.finder.e)), (.mp j0_2)]) ∧ Gx s j0_2 (AObj.map .s (mpF check_solver_of_V0 (Mp.get a0.known)) (Mp.n a0.known)) ∧ Bx σ s i4 43 [(.v (.int .i64 ((Option.getD (Mp.get a0.known a1.name) (Clock.mk (0 : Int) (0 : Int))).period))), (.v (.int .i64 ((Option.getD (Mp.get a0.known a1.name) (Clock.mk (0 : Int) (0 : Int))).phase)))] ∧ e 4 = (.pt i4 0) ∧ e 5 = (.v (.bool (Option.isSome (Mp.get a0.known a1.name)))) ∧ j0 ≠ i4 ∧ Fr σ τ [j0, j0_2] ∧ Pre τ s) ?_ fun e s hI => ?_
   ·refine w_x (cj12 E4 E6 E7 X0.get X0_2.get X4.get X6.get (X0.ne (Ne.symm N0__4) (some (AObj.box 43 [(.v (.int .i64 ((Option.getD (Mp.get a0.known a1.name) (Clock.mk (0 : Int) (0 : Int))).period))), (.v (.int .i64 ((Option.getD (Mp.get a0.known a1.name) (Clock.mk (0 : Int) (0 : Int))).phase)))]))).get (X0_2.ne (Gx.apart X4.gx X0_2 (by intro h; cases h)) (some (AObj.box 43 [(.v (.int .i64 ((Option.getD (Mp.get a0.known a1.name) (Clock.mk (0 : Int) (0 : Int))).period))), (.v (.int .i64 ((Option.getD (Mp.get a0.known a1.name) (Clock.mk (0 : Int) (0 : Int))).phase)))]))).get (X4.same 43 [(.v (.int .i64 ((Option.getD (Mp.get a0.known a1.name) (Clock.mk (0 : Int) (0 : Int))).period))), (.v (.int .i64 ((Option.getD (Mp.get a0.known a1.name) (Clock.mk (0 : Int) (0 : Int))).phase)))]).get (X6.ne N4__6 (some (AObj.box 43 [(.v (.int .i64 ((Option.getD (Mp.get a0.known a1.name) (Clock.mk (0 : Int) (0 : Int))).period))), (.v (.int .i64 ((Option.getD (Mp.get a0.known a1.name) (Clock.mk (0 : Int) (0 : Int))).phase)))]))).get TT) (k := ?_)
    have q11 := Gx.apart X4.gx X0_2 (by intro h; cases h)
    have q12 := X4.same 43 [(.v (.int .i64 ((Option.getD (Mp.get a0.known a1.name) (Clock.mk (0 : Int) (0 : Int))).period))), (.v (.int .i64 ((Option.getD (Mp.get a0.known a1.name) (Clock.mk (0 : Int) (0 : Int))).phase)))]
    have q13 := X6.ne N4__6 (some (AObj.box 43 [(.v (.int .i64 ((Option.getD (Mp.get a0.known a1.name) (Clock.mk (0 : Int) (0 : Int))).period))), (.v (.int .i64 ((Option.getD (Mp.get a0.known a1.name) (Clock.mk (0 : Int) (0 : Int))).phase)))]))
    have q14 := X0.ne (Ne.symm N0__4) (some (AObj.box 43 [(.v (.int .i64 ((Option.getD (Mp.get a0.known a1.name) (Clock.mk (0 : Int) (0 : Int))).period))), (.v (.int .i64 ((Option.getD (Mp.get a0.known a1.name) (Clock.mk (0 : Int) (0 : Int))).phase)))]))
    have q15 := cj12 E4 E6 E7 X0.get X0_2.get X4.get X6.get q14.get (X0_2.ne q11 (some (AObj.box 43 [(.v (.int .i64 ((Option.getD (Mp.get a0.known a1.name) (Clock.mk (0 : Int) (0 : Int))).period))), (.v (.int .i64 ((Option.getD (Mp.get a0.known a1.name) (Clock.mk (0 : Int) (0 : Int))).phase)))]))).get q12.get q13.get TT
    exact cw_n ⟨_, WkE.refl _, τ, q14, (X0_2.ne q11 (some (AObj.box 43 [(.v (.int .i64 ((Option.getD (Mp.get a0.known a1.name) (Clock.mk (0 : Int) (0 : Int))).period))), (.v (.int .i64 ((Option.getD (Mp.get a0.known a1.name) (Clock.mk (0 : Int) (0 : Int))).phase)))]))), q12, (xv q15), (xv q15), N0__4, hF, (hP.set (hF.ge X4.le) (some (AObj.box 43 [(.v (.int .i64 ((Option.getD (Mp.get a0.known a1.name) (Clock.mk (0 : Int) (0 : Int))).period))), (.v (.int .i64 ((Option.getD (Mp.get a0.known a1.name) (Clock.mk (0 : Int) (0 : Int))).phase)))])))⟩
   obtain ⟨τ, X0, X0_2, X4, E4, E5, N0__4, hF, hP⟩ := hI
   refine w_ret ?_
   refine w_bkr ?_
   obtain rfl := some_inj h2
   refine cw_r ?_
   try dsimp only at h
   obtain rfl := some_inj h
   have hn8 : (List.map (·.1) ([(j0, (AObj.box 123 [(.v (.int .i64 a0.finder.at_)), (.v (.int .i64 a0.finder.e)), (.mp j0_2)])), (j0_2, (AObj.map .s (mpF check_solver_of_V0 (Mp.get a0.known)) (Mp.n a0.known)))] : List (Nat × AObj))).Nodup := (List.nodup_cons.2 ⟨(by simp only [List.map_cons, List.map_nil, List.mem_cons, List.not_mem_nil, or_false, not_or]; exact (Gx.apart X0 X0_2 (by intro h; cases h))), (List.nodup_cons.2 ⟨(fun h => by simp at h), List.nodup_nil⟩)⟩)
   have he9 := Fr.eq (l := [(j0, (AObj.box 123 [(.v (.int .i64 a0.finder.at_)), (.v (.int .i64 a0.finder.e)), (.mp j0_2)])), (j0_2, (AObj.map .s (mpF check_solver_of_V0 (Mp.get a0.known)) (Mp.n a0.known)))]) hF hn8 (List.forall_mem_cons.2 ⟨⟨jl0, (Gx.back X0 hP (hF.lt jl0))⟩, (List.forall_mem_cons.2 ⟨⟨jl0_2, (Gx.back X0_2 hP (hF.lt jl0_2))⟩, (fun x hx => absurd hx (by simp))⟩)⟩)
   exact w_end (fun _ => rfl) (xr (rs := #[.cell 4 43, .tmp 5]) (cj4 X4.get E4 E5 TT)) ⟨[(j0, (AObj.box 123 [(.v (.int .i64 a0.finder.at_)), (.v (.int .i64 a0.finder.e)), (.mp j0_2)])), (j0_2, (AObj.map .s (mpF check_solver_of_V0 (Mp.get a0.known)) (Mp.n a0.known)))], hn8, (List.forall_mem_cons.2 ⟨⟨jl0, (ClO.bx (ClL.cons (Cn.cl (.v _) _) (ClL.cons (Cn.cl (.v _) _) (ClL.cons (Cl.mp jl0_2) ClL.nil))))⟩, (List.forall_mem_cons.2 ⟨⟨jl0_2, ((CnO.mp (fun _ => (.ag (CnL.cons (.v _) (CnL.cons (.v _) CnL.nil)))) _ _).cl _)⟩, (fun x hx => absurd hx (by simp))⟩)⟩), he9 ▸ hP, (.tu [(.ag [(.v (.int .i64 ((Option.getD (Mp.get a0.known a1.name) (Clock.mk (0 : Int) (0 : Int))).period))), (.v (.int .i64 ((Option.getD (Mp.get a0.known a1.name) (Clock.mk (0 : Int) (0 : Int))).phase)))]), (.v (.bool (Option.isSome (Mp.get a0.known a1.name))))]), (.refl _), (.tu (CnL.cons (.ag (CnL.cons (.v _) (CnL.cons (.v _) CnL.nil))) (CnL.cons (.v _) CnL.nil))), hK⟩
  ·refine xf (cj6 E0 E3 E4 E17 E18 hb6) ?_
   refine w_sa (fun e s => ∃ τ : Store, Gx s j0 (AObj.box 123 [(.v (.int .i64 a0.finder.at_)), (.v (.int .i64 a0.finder.e)), (.mp j0_2)]) ∧ Gx s j0_2 (AObj.map .s (mpF check_solver_of_V0 (Mp.get a0.known)) (Mp.n a0.known)) ∧ Bx σ s i3 39 (check_solver_of_A0 a1) ∧ Bx σ s i4 43 [(.v (.int .i64 (0 : Int))), (.v (.int .i64 (0 : Int)))] ∧ e 0 = (.pt j0 0) ∧ e 3 = (.pt i3 0) ∧ e 4 = (.pt i4 0) ∧ e 32 = (.v (.bool (decide (a1.kind = (2 : Int))))) ∧ j0 ≠ i3 ∧ j0 ≠ i4 ∧ i3 ≠ i4 ∧ Fr σ τ [j0, j0_2] ∧ Pre τ s) ?_ fun e s hI => ?_
   ·refine w_x (cj10 E0 E3 E4 E17 E18 X0.get X0_2.get X3.get X4.get TT) (k := ?_)
    have q16 := cj10 E0 E3 E4 E17 E18 X0.get X0_2.get X3.get X4.get TT
    exact cw_n ⟨_, WkE.refl _, τ, X0, X0_2, X3, X4, (xv q16), (xv q16), (xv q16), (xv q16), N0__3, N0__4, N3__4, hF, hP⟩
   obtain ⟨τ, X0, X0_2, X3, X4, E0, E3, E4, E32, N0__3, N0__4, N3__4, hF, hP⟩ := hI
   rcases ite_some h2 with ⟨hb10, h2⟩ | ⟨hb10, h2⟩
   ·refine xt (cj5 E0 E3 E4 E32 hb10) ?_
    refine w_assoc ?_
    refine w_sa (fun e s => ∃ τ : Store, Gx s j0 (AObj.box 123 [(.v (.int .i64 a0.finder.at_)), (.v (.int .i64 a0.finder.e)), (.mp j0_2)]) ∧ Gx s j0_2 (AObj.map .s (mpF check_solver_of_V0 (Mp.get a0.known)) (Mp.n a0.known)) ∧ Bx σ s i4 43 [(.v (.int .i64 (0 : Int))), (.v (.int .i64 (0 : Int)))] ∧ e 0 = (.pt j0 0) ∧ e 4 = (.pt i4 0) ∧ e 35 = (.sl (Expr.rows a1.args)) ∧ e 36 = (.v (.int .i64 ((List.length a1.args : Nat) : Int))) ∧ e 37 = (.v (.int .i64 (0 : Int))) ∧ j0 ≠ i4 ∧ Fr σ τ [j0, j0_2] ∧ Pre τ s) ?_ fun e s hI => ?_
    ·refine w_x (cj9 E0 E3 E4 E32 X0.get X0_2.get X3.get X4.get TT) (k := ?_)
     have q17 := cj9 E0 E3 E4 E32 X0.get X0_2.get X3.get X4.get TT
     exact cw_n ⟨_, WkE.refl _, τ, X0, X0_2, X4, (xv q17), (xv q17), (xv q17), (xv q17), (xv q17), N0__4, hF, hP⟩
    obtain ⟨τ, X0, X0_2, X4, E0, E4, E35, E36, E37, N0__4, hF, hP⟩ := hI
    obtain ⟨x11, h12, h2⟩ := bnd_some h2
    refine w_sa (fun e s => ∃ v0_13 : check_solver, ∃ v0_2_14 : (Mp Clock), ∃ v4_15 : Clock, ∃ τ : Store, .inr (v0_13, v0_2_14, v4_15) = x11 ∧ Gx s j0 (AObj.box 123 [(.v (.int .i64 v0_13.finder.at_)), (.v (.int .i64 v0_13.finder.e)), (.mp j0_2)]) ∧ Gx s j0_2 (AObj.map .s (mpF check_solver_of_V0 (Mp.get v0_2_14)) (Mp.n v0_2_14)) ∧ Bx σ s i4 43 [(.v (.int .i64 v4_15.period)), (.v (.int .i64 v4_15.phase))] ∧ e 4 = (.pt i4 0) ∧ j0 ≠ i4 ∧ Fr σ τ [j0, j0_2] ∧ Pre τ s) ?_ fun e s hI => ?_
    ·refine w_block ?_
     have q18 := cj5 E0 E4 E35 E36 E37
     refine w_iter h12 (fun v e s => ∃ v37_16 : Int, ∃ v0_17 : check_solver, ∃ v0_2_18 : (Mp Clock), ∃ v4_19 : Clock, ∃ τ : Store, (v37_16, v0_17, v0_2_18, v4_19) = v ∧ Gx s j0 (AObj.box 123 [(.v (.int .i64 v0_17.finder.at_)), (.v (.int .i64 v0_17.finder.e)), (.mp j0_2)]) ∧ Gx s j0_2 (AObj.map .s (mpF check_solver_of_V0 (Mp.get v0_2_18)) (Mp.n v0_2_18)) ∧ Bx σ s i4 43 [(.v (.int .i64 v4_19.period)), (.v (.int .i64 v4_19.phase))] ∧ e 0 = (.pt j0 0) ∧ e 4 = (.pt i4 0) ∧ e 35 = (.sl (Expr.rows a1.args)) ∧ e 36 = (.v (.int .i64 ((List.length a1.args : Nat) : Int))) ∧ e 37 = (.v (.int .i64 v37_16)) ∧ j0 ≠ i4 ∧ Fr σ τ [j0, j0_2] ∧ Pre τ s) ⟨_, WkE.refl _, _, _, _, _, τ, rfl, X0, X0_2, X4, (xv q18), (xv q18), (xv q18), (xv q18), (xv q18), N0__4, hF, hP⟩ fun v x20 e s hf21 hI => ?_
     obtain ⟨v37_16, v0_17, v0_2_18, v4_19, τ, rfl, X0, X0_2, X4, E0, E4, E35, E36, E37, N0__4, hF, hP⟩ := hI
     unfold check_solver_of_L0 at hf21
     try dsimp only at hf21
     refine w_sa (fun e s => ∃ τ : Store, Gx s j0 (AObj.box 123 [(.v (.int .i64 v0_17.finder.at_)), (.v (.int .i64 v0_17.finder.e)), (.mp j0_2)]) ∧ Gx s j0_2 (AObj.map .s (mpF check_solver_of_V0 (Mp.get v0_2_18)) (Mp.n v0_2_18)) ∧ Bx σ s i4 43 [(.v (.int .i64 v4_19.period)), (.v (.int .i64 v4_19.phase))] ∧ e 0 = (.pt j0 0) ∧ e 4 = (.pt i4 0) ∧ e 35 = (.sl (Expr.rows a1.args)) ∧ e 36 = (.v (.int .i64 ((List.length a1.args : Nat) : Int))) ∧ e 37 = (.v (.int .i64 v37_16)) ∧ e 38 = (.v (.bool (decide (v37_16 < ((List.length a1.args : Nat) : Int))))) ∧ j0 ≠ i4 ∧ Fr σ τ [j0, j0_2] ∧ Pre τ s) ?_ fun e s hI => ?_
     ·refine w_x (cj9 E0 E4 E35 E36 E37 X0.get X0_2.get X4.get TT) (k := ?_)
      have q19 := cj9 E0 E4 E35 E36 E37 X0.get X0_2.get X4.get TT
      exact cw_n ⟨_, WkE.refl _, τ, X0, X0_2, X4, (xv q19), (xv q19), (xv q19), (xv q19), (xv q19), (xv q19), N0__4, hF, hP⟩
     obtain ⟨τ, X0, X0_2, X4, E0, E4, E35, E36, E37, E38, N0__4, hF, hP⟩ := hI
     refine w_seq ?_
     rcases ite_some hf21 with ⟨hb22, hf21⟩ | ⟨hb22, hf21⟩
     ·refine xt (cj7 E0 E4 E35 E36 E37 E38 hb22) ?_
      refine w_skip ?_
      refine w_sq ?_
      obtain ⟨x23, h24, hf21⟩ := bnd_some hf21
      refine w_sa (fun e s => ∃ v0_25 : check_solver, ∃ v0_2_26 : (Mp Clock), ∃ v4_27 : Clock, ∃ τ : Store, .inr (v0_25, v0_2_26, v4_27) = x23 ∧ Gx s j0 (AObj.box 123 [(.v (.int .i64 v0_25.finder.at_)), (.v (.int .i64 v0_25.finder.e)), (.mp j0_2)]) ∧ Gx s j0_2 (AObj.map .s (mpF check_solver_of_V0 (Mp.get v0_2_26)) (Mp.n v0_2_26)) ∧ Bx σ s i4 43 [(.v (.int .i64 v4_27.period)), (.v (.int .i64 v4_27.phase))] ∧ e 0 = (.pt j0 0) ∧ e 4 = (.pt i4 0) ∧ e 35 = (.sl (Expr.rows a1.args)) ∧ e 36 = (.v (.int .i64 ((List.length a1.args : Nat) : Int))) ∧ e 37 = (.v (.int .i64 v37_16)) ∧ j0 ≠ i4 ∧ Fr σ τ [j0, j0_2] ∧ Pre τ s) ?_ fun e s hI => ?_
      ·refine w_block ?_
       obtain ⟨y28, h29, h24⟩ := bnd_some h24
       refine w_sa (fun e s => ∃ i9 : Nat, ∃ τ : Store, Gx s j0 (AObj.box 123 [(.v (.int .i64 v0_17.finder.at_)), (.v (.int .i64 v0_17.finder.e)), (.mp j0_2)]) ∧ Gx s j0_2 (AObj.map .s (mpF check_solver_of_V0 (Mp.get v0_2_18)) (Mp.n v0_2_18)) ∧ Bx σ s i4 43 [(.v (.int .i64 v4_19.period)), (.v (.int .i64 v4_19.phase))] ∧ Bx σ s i9 39 [(.v (.int .i64 y28.kind)), (.v (.string y28.name)), (.v (.int .i64 y28.n)), (.v (.int .i64 y28.d)), (.sl (Expr.rows y28.args)), (.v (.int .i64 y28.at_))] ∧ e 0 = (.pt j0 0) ∧ e 4 = (.pt i4 0) ∧ e 9 = (.pt i9 0) ∧ e 35 = (.sl (Expr.rows a1.args)) ∧ e 36 = (.v (.int .i64 ((List.length a1.args : Nat) : Int))) ∧ e 37 = (.v (.int .i64 v37_16)) ∧ j0 ≠ i4 ∧ j0 ≠ i9 ∧ i4 ≠ i9 ∧ Fr σ τ [j0, j0_2] ∧ Pre τ s) ?_ fun e s hI => ?_
       ·have R30 : (Expr.rows a1.args)[(v37_16).toNat]? = some [(.v (.int .i64 y28.kind)), (.v (.string y28.name)), (.v (.int .i64 y28.n)), (.v (.int .i64 y28.d)), (.sl (Expr.rows y28.args)), (.v (.int .i64 y28.at_))] := Expr.rget (getI_some h29).2
        refine w_x (cj18 E0 E4 E35 E36 E37 E38 X0.get X0.any X0.any2 X0_2.get X0_2.any X0_2.any2 X4.get X4.any X4.any2 R30 (getI_some h29).1 TT) (k := ?_)
        have q20 := cj18 E0 E4 E35 E36 E37 E38 X0.get X0.any X0.any2 X0_2.get X0_2.any X0_2.any2 X4.get X4.any X4.any2 R30 (getI_some h29).1 TT
        exact cw_n ⟨_, WkE.refl _, s.length, τ, (X0.app [some (AObj.box 39 [(.v (.int .i64 y28.kind)), (.v (.string y28.name)), (.v (.int .i64 y28.n)), (.v (.int .i64 y28.d)), (.sl (Expr.rows y28.args)), (.v (.int .i64 y28.at_))])]), (X0_2.app [some (AObj.box 39 [(.v (.int .i64 y28.kind)), (.v (.string y28.name)), (.v (.int .i64 y28.n)), (.v (.int .i64 y28.d)), (.sl (Expr.rows y28.args)), (.v (.int .i64 y28.at_))])]), (X4.app [some (AObj.box 39 [(.v (.int .i64 y28.kind)), (.v (.string y28.name)), (.v (.int .i64 y28.n)), (.v (.int .i64 y28.d)), (.sl (Expr.rows y28.args)), (.v (.int .i64 y28.at_))])]), (Bx.newf hF hP 39 [(.v (.int .i64 y28.kind)), (.v (.string y28.name)), (.v (.int .i64 y28.n)), (.v (.int .i64 y28.d)), (.sl (Expr.rows y28.args)), (.v (.int .i64 y28.at_))]), (xv q20), (xv q20), (xv q20), (xv q20), (xv q20), (xv q20), N0__4, (Nat.ne_of_lt X0.lt), (Nat.ne_of_lt X4.lt), hF, (hP.app _)⟩
       obtain ⟨i9, τ, X0, X0_2, X4, X9, E0, E4, E9, E35, E36, E37, N0__4, N0__9, N4__9, hF, hP⟩ := hI
       obtain ⟨y31, h32, h24⟩ := bnd_some h24
       refine w_sa (fun e s => ∃ i10 : Nat, ∃ τ : Store, Gx s j0 (AObj.box 123 [(.v (.int .i64 y31.2.finder.at_)), (.v (.int .i64 y31.2.finder.e)), (.mp j0_2)]) ∧ Gx s j0_2 (AObj.map .s (mpF check_solver_of_V0 (Mp.get y31.2.known)) (Mp.n y31.2.known)) ∧ Bx σ s i10 43 [(.v (.int .i64 y31.1.1.period)), (.v (.int .i64 y31.1.1.phase))] ∧ Bx σ s i4 43 [(.v (.int .i64 v4_19.period)), (.v (.int .i64 v4_19.phase))] ∧ e 0 = (.pt j0 0) ∧ e 4 = (.pt i4 0) ∧ e 10 = (.pt i10 0) ∧ e 11 = (.v (.bool y31.1.2)) ∧ e 35 = (.sl (Expr.rows a1.args)) ∧ e 36 = (.v (.int .i64 ((List.length a1.args : Nat) : Int))) ∧ e 37 = (.v (.int .i64 v37_16)) ∧ j0 ≠ i10 ∧ j0 ≠ i4 ∧ i10 ≠ i4 ∧ Fr σ τ [j0, j0_2] ∧ Pre τ s) ?_ fun e s hI => ?_
       ·have q21 := Gx.apart X0 X0_2 (by intro h; cases h)
        have q22 := Gx.same X0 (AObj.box 123 [(.v (.int .i64 y31.2.finder.at_)), (.v (.int .i64 y31.2.finder.e)), (.mp j0_2)])
        have q23 := X4.ne N0__4 (some (AObj.box 123 [(.v (.int .i64 y31.2.finder.at_)), (.v (.int .i64 y31.2.finder.e)), (.mp j0_2)]))
        have q24 := X9.ne N0__9 (some (AObj.box 123 [(.v (.int .i64 y31.2.finder.at_)), (.v (.int .i64 y31.2.finder.e)), (.mp j0_2)]))
        refine w_x (cj8 E0 E4 E9 E35 E36 E37 X0.get (cj20 X0.any X0.any2 X0_2.get X0_2.any X0_2.any2 X4.get X4.any X4.any2 X9.get X9.any X9.any2 q22.get (X0_2.ne q21 (some (AObj.box 123 [(.v (.int .i64 y31.2.finder.at_)), (.v (.int .i64 y31.2.finder.e)), (.mp j0_2)]))).get q23.get q24.get (q22.ne (Gx.apart (X0_2.ne q21 (some (AObj.box 123 [(.v (.int .i64 y31.2.finder.at_)), (.v (.int .i64 y31.2.finder.e)), (.mp j0_2)]))) q22 (by intro h; cases h)) (some (AObj.map .s (mpF check_solver_of_V0 (Mp.get y31.2.known)) (Mp.n y31.2.known)))).get (Gx.same (X0_2.ne q21 (some (AObj.box 123 [(.v (.int .i64 y31.2.finder.at_)), (.v (.int .i64 y31.2.finder.e)), (.mp j0_2)]))) (AObj.map .s (mpF check_solver_of_V0 (Mp.get y31.2.known)) (Mp.n y31.2.known))).get (q23.ne (Gx.apart (X0_2.ne q21 (some (AObj.box 123 [(.v (.int .i64 y31.2.finder.at_)), (.v (.int .i64 y31.2.finder.e)), (.mp j0_2)]))) q23.gx (by intro h; cases h)) (some (AObj.map .s (mpF check_solver_of_V0 (Mp.get y31.2.known)) (Mp.n y31.2.known)))).get (q24.ne (Gx.apart (X0_2.ne q21 (some (AObj.box 123 [(.v (.int .i64 y31.2.finder.at_)), (.v (.int .i64 y31.2.finder.e)), (.mp j0_2)]))) q24.gx (by intro h; cases h)) (some (AObj.map .s (mpF check_solver_of_V0 (Mp.get y31.2.known)) (Mp.n y31.2.known)))).get TT)) (k := ?_)
        refine EC.wka (.cons (.refl _) (.cons (.refl _) .nil)) (S_check_solver_of _ _ _ h32 _ _ _ _ X0 X0_2 ?_)
        have q25 := Gx.apart X0 X0_2 (by intro h; cases h)
        have q26 := Gx.same X0 (AObj.box 123 [(.v (.int .i64 y31.2.finder.at_)), (.v (.int .i64 y31.2.finder.e)), (.mp j0_2)])
        have q27 := X4.ne N0__4 (some (AObj.box 123 [(.v (.int .i64 y31.2.finder.at_)), (.v (.int .i64 y31.2.finder.e)), (.mp j0_2)]))
        have q28 := X9.ne N0__9 (some (AObj.box 123 [(.v (.int .i64 y31.2.finder.at_)), (.v (.int .i64 y31.2.finder.e)), (.mp j0_2)]))
        refine w_y (cj8 E0 E4 E9 E35 E36 E37 X0.get (cj20 X0.any X0.any2 X0_2.get X0_2.any X0_2.any2 X4.get X4.any X4.any2 X9.get X9.any X9.any2 q26.get (X0_2.ne q25 (some (AObj.box 123 [(.v (.int .i64 y31.2.finder.at_)), (.v (.int .i64 y31.2.finder.e)), (.mp j0_2)]))).get q27.get q28.get (q26.ne (Gx.apart (X0_2.ne q25 (some (AObj.box 123 [(.v (.int .i64 y31.2.finder.at_)), (.v (.int .i64 y31.2.finder.e)), (.mp j0_2)]))) q26 (by intro h; cases h)) (some (AObj.map .s (mpF check_solver_of_V0 (Mp.get y31.2.known)) (Mp.n y31.2.known)))).get (Gx.same (X0_2.ne q25 (some (AObj.box 123 [(.v (.int .i64 y31.2.finder.at_)), (.v (.int .i64 y31.2.finder.e)), (.mp j0_2)]))) (AObj.map .s (mpF check_solver_of_V0 (Mp.get y31.2.known)) (Mp.n y31.2.known))).get (q27.ne (Gx.apart (X0_2.ne q25 (some (AObj.box 123 [(.v (.int .i64 y31.2.finder.at_)), (.v (.int .i64 y31.2.finder.e)), (.mp j0_2)]))) q27.gx (by intro h; cases h)) (some (AObj.map .s (mpF check_solver_of_V0 (Mp.get y31.2.known)) (Mp.n y31.2.known)))).get (q28.ne (Gx.apart (X0_2.ne q25 (some (AObj.box 123 [(.v (.int .i64 y31.2.finder.at_)), (.v (.int .i64 y31.2.finder.e)), (.mp j0_2)]))) q28.gx (by intro h; cases h)) (some (AObj.map .s (mpF check_solver_of_V0 (Mp.get y31.2.known)) (Mp.n y31.2.known)))).get TT)) (k := ?_)
        have q29 := Gx.apart X0 X0_2 (by intro h; cases h)
        have q30 := Gx.same X0 (AObj.box 123 [(.v (.int .i64 y31.2.finder.at_)), (.v (.int .i64 y31.2.finder.e)), (.mp j0_2)])
        have q31 := X4.ne N0__4 (some (AObj.box 123 [(.v (.int .i64 y31.2.finder.at_)), (.v (.int .i64 y31.2.finder.e)), (.mp j0_2)]))
        have q32 := X9.ne N0__9 (some (AObj.box 123 [(.v (.int .i64 y31.2.finder.at_)), (.v (.int .i64 y31.2.finder.e)), (.mp j0_2)]))
        have q33 := Gx.apart (X0_2.ne q29 (some (AObj.box 123 [(.v (.int .i64 y31.2.finder.at_)), (.v (.int .i64 y31.2.finder.e)), (.mp j0_2)]))) q30 (by intro h; cases h)
        have q34 := Gx.apart (X0_2.ne q29 (some (AObj.box 123 [(.v (.int .i64 y31.2.finder.at_)), (.v (.int .i64 y31.2.finder.e)), (.mp j0_2)]))) q31.gx (by intro h; cases h)
        have q35 := Gx.apart (X0_2.ne q29 (some (AObj.box 123 [(.v (.int .i64 y31.2.finder.at_)), (.v (.int .i64 y31.2.finder.e)), (.mp j0_2)]))) q32.gx (by intro h; cases h)
        have q36 := Gx.same (X0_2.ne q29 (some (AObj.box 123 [(.v (.int .i64 y31.2.finder.at_)), (.v (.int .i64 y31.2.finder.e)), (.mp j0_2)]))) (AObj.map .s (mpF check_solver_of_V0 (Mp.get y31.2.known)) (Mp.n y31.2.known))
        have q37 := cj20 X0.any X0.any2 X0_2.get X0_2.any X0_2.any2 X4.get X4.any X4.any2 X9.get X9.any X9.any2 q30.get (X0_2.ne q29 (some (AObj.box 123 [(.v (.int .i64 y31.2.finder.at_)), (.v (.int .i64 y31.2.finder.e)), (.mp j0_2)]))).get q31.get q32.get (q30.ne q33 (some (AObj.map .s (mpF check_solver_of_V0 (Mp.get y31.2.known)) (Mp.n y31.2.known)))).get q36.get (q31.ne q34 (some (AObj.map .s (mpF check_solver_of_V0 (Mp.get y31.2.known)) (Mp.n y31.2.known)))).get (q32.ne q35 (some (AObj.map .s (mpF check_solver_of_V0 (Mp.get y31.2.known)) (Mp.n y31.2.known)))).get TT
        have q38 := cj8 E0 E4 E9 E35 E36 E37 X0.get q37
        exact cw_n ⟨_, WkE.refl _, (List.set (List.set s j0 (some (AObj.box 123 [(.v (.int .i64 y31.2.finder.at_)), (.v (.int .i64 y31.2.finder.e)), (.mp j0_2)]))) j0_2 (some (AObj.map .s (mpF check_solver_of_V0 (Mp.get y31.2.known)) (Mp.n y31.2.known)))).length, (List.set (List.set τ j0 (some (AObj.box 123 [(.v (.int .i64 y31.2.finder.at_)), (.v (.int .i64 y31.2.finder.e)), (.mp j0_2)]))) j0_2 (some (AObj.map .s (mpF check_solver_of_V0 (Mp.get y31.2.known)) (Mp.n y31.2.known)))), ((q30.ne q33 (some (AObj.map .s (mpF check_solver_of_V0 (Mp.get y31.2.known)) (Mp.n y31.2.known)))).app [some (AObj.box 43 [(.v (.int .i64 y31.1.1.period)), (.v (.int .i64 y31.1.1.phase))])]), (q36.app [some (AObj.box 43 [(.v (.int .i64 y31.1.1.period)), (.v (.int .i64 y31.1.1.phase))])]), (Bx.newf ((hF.set (by simp) (some (AObj.box 123 [(.v (.int .i64 y31.2.finder.at_)), (.v (.int .i64 y31.2.finder.e)), (.mp j0_2)]))).set (by simp) (some (AObj.map .s (mpF check_solver_of_V0 (Mp.get y31.2.known)) (Mp.n y31.2.known)))) ((hP.setp (hF.lt jl0) (some (AObj.box 123 [(.v (.int .i64 y31.2.finder.at_)), (.v (.int .i64 y31.2.finder.e)), (.mp j0_2)]))).setp ((hF.set (by simp) (some (AObj.box 123 [(.v (.int .i64 y31.2.finder.at_)), (.v (.int .i64 y31.2.finder.e)), (.mp j0_2)]))).lt jl0_2) (some (AObj.map .s (mpF check_solver_of_V0 (Mp.get y31.2.known)) (Mp.n y31.2.known)))) 43 [(.v (.int .i64 y31.1.1.period)), (.v (.int .i64 y31.1.1.phase))]), ((q31.ne q34 (some (AObj.map .s (mpF check_solver_of_V0 (Mp.get y31.2.known)) (Mp.n y31.2.known)))).app [some (AObj.box 43 [(.v (.int .i64 y31.1.1.period)), (.v (.int .i64 y31.1.1.phase))])]), (xv q38), (xv q38), (xv q38), (xv q38), (xv q38), (xv q38), (xv q38), (Nat.ne_of_lt (q30.ne q33 (some (AObj.map .s (mpF check_solver_of_V0 (Mp.get y31.2.known)) (Mp.n y31.2.known)))).lt), N0__4, (Ne.symm (Nat.ne_of_lt (q31.ne q34 (some (AObj.map .s (mpF check_solver_of_V0 (Mp.get y31.2.known)) (Mp.n y31.2.known)))).lt)), ((hF.set (by simp) (some (AObj.box 123 [(.v (.int .i64 y31.2.finder.at_)), (.v (.int .i64 y31.2.finder.e)), (.mp j0_2)]))).set (by simp) (some (AObj.map .s (mpF check_solver_of_V0 (Mp.get y31.2.known)) (Mp.n y31.2.known)))), (((hP.setp (hF.lt jl0) (some (AObj.box 123 [(.v (.int .i64 y31.2.finder.at_)), (.v (.int .i64 y31.2.finder.e)), (.mp j0_2)]))).setp ((hF.set (by simp) (some (AObj.box 123 [(.v (.int .i64 y31.2.finder.at_)), (.v (.int .i64 y31.2.finder.e)), (.mp j0_2)]))).lt jl0_2) (some (AObj.map .s (mpF check_solver_of_V0 (Mp.get y31.2.known)) (Mp.n y31.2.known)))).app _)⟩
       obtain ⟨i10, τ, X0, X0_2, X10, X4, E0, E4, E10, E11, E35, E36, E37, N0__10, N0__4, N10__4, hF, hP⟩ := hI
       refine w_sa (fun e s => ∃ τ : Store, Gx s j0 (AObj.box 123 [(.v (.int .i64 y31.2.finder.at_)), (.v (.int .i64 y31.2.finder.e)), (.mp j0_2)]) ∧ Gx s j0_2 (AObj.map .s (mpF check_solver_of_V0 (Mp.get y31.2.known)) (Mp.n y31.2.known)) ∧ Bx σ s i10 43 [(.v (.int .i64 y31.1.1.period)), (.v (.int .i64 y31.1.1.phase))] ∧ Bx σ s i4 43 [(.v (.int .i64 v4_19.period)), (.v (.int .i64 v4_19.phase))] ∧ e 0 = (.pt j0 0) ∧ e 4 = (.pt i4 0) ∧ e 10 = (.pt i10 0) ∧ e 35 = (.sl (Expr.rows a1.args)) ∧ e 36 = (.v (.int .i64 ((List.length a1.args : Nat) : Int))) ∧ e 37 = (.v (.int .i64 v37_16)) ∧ e 47 = (.v (.bool y31.1.2)) ∧ j0 ≠ i10 ∧ j0 ≠ i4 ∧ i10 ≠ i4 ∧ Fr σ τ [j0, j0_2] ∧ Pre τ s) ?_ fun e s hI => ?_
       ·refine w_x (cj12 E0 E4 E10 E11 E35 E36 E37 X0.get X0_2.get X10.get X4.get TT) (k := ?_)
        have q39 := cj12 E0 E4 E10 E11 E35 E36 E37 X0.get X0_2.get X10.get X4.get TT
        exact cw_n ⟨_, WkE.refl _, τ, X0, X0_2, X10, X4, (xv q39), (xv q39), (xv q39), (xv q39), (xv q39), (xv q39), (xv q39), N0__10, N0__4, N10__4, hF, hP⟩
       obtain ⟨τ, X0, X0_2, X10, X4, E0, E4, E10, E35, E36, E37, E47, N0__10, N0__4, N10__4, hF, hP⟩ := hI
       rcases ite_some h24 with ⟨hb33, h24⟩ | ⟨hb33, h24⟩
       ·refine xt (cj8 E0 E4 E10 E35 E36 E37 E47 hb33) ?_
        refine w_sa (fun e s => ∃ τ : Store, Gx s j0 (AObj.box 123 [(.v (.int .i64 y31.2.finder.at_)), (.v (.int .i64 y31.2.finder.e)), (.mp j0_2)]) ∧ Gx s j0_2 (AObj.map .s (mpF check_solver_of_V0 (Mp.get y31.2.known)) (Mp.n y31.2.known)) ∧ Bx σ s i4 43 [(.v (.int .i64 y31.1.1.period)), (.v (.int .i64 y31.1.1.phase))] ∧ e 4 = (.pt i4 0) ∧ e 5 = (.v (.bool true)) ∧ j0 ≠ i4 ∧ Fr σ τ [j0, j0_2] ∧ Pre τ s) ?_ fun e s hI => ?_
        ·refine w_x (cj16 E0 E4 E10 E35 E36 E37 E47 X0.get X0_2.get X10.get X4.get (X0.ne (Ne.symm N0__4) (some (AObj.box 43 [(.v (.int .i64 y31.1.1.period)), (.v (.int .i64 y31.1.1.phase))]))).get (X0_2.ne (Gx.apart X4.gx X0_2 (by intro h; cases h)) (some (AObj.box 43 [(.v (.int .i64 y31.1.1.period)), (.v (.int .i64 y31.1.1.phase))]))).get (X10.ne (Ne.symm N10__4) (some (AObj.box 43 [(.v (.int .i64 y31.1.1.period)), (.v (.int .i64 y31.1.1.phase))]))).get (X4.same 43 [(.v (.int .i64 y31.1.1.period)), (.v (.int .i64 y31.1.1.phase))]).get TT) (k := ?_)
         have q40 := Gx.apart X4.gx X0_2 (by intro h; cases h)
         have q41 := X4.same 43 [(.v (.int .i64 y31.1.1.period)), (.v (.int .i64 y31.1.1.phase))]
         have q42 := X0.ne (Ne.symm N0__4) (some (AObj.box 43 [(.v (.int .i64 y31.1.1.period)), (.v (.int .i64 y31.1.1.phase))]))
         have q43 := X10.ne (Ne.symm N10__4) (some (AObj.box 43 [(.v (.int .i64 y31.1.1.period)), (.v (.int .i64 y31.1.1.phase))]))
         have q44 := cj16 E0 E4 E10 E35 E36 E37 E47 X0.get X0_2.get X10.get X4.get q42.get (X0_2.ne q40 (some (AObj.box 43 [(.v (.int .i64 y31.1.1.period)), (.v (.int .i64 y31.1.1.phase))]))).get q43.get q41.get TT
         exact cw_n ⟨_, WkE.refl _, τ, q42, (X0_2.ne q40 (some (AObj.box 43 [(.v (.int .i64 y31.1.1.period)), (.v (.int .i64 y31.1.1.phase))]))), q41, (xv q44), (xv q44), N0__4, hF, (hP.set (hF.ge X4.le) (some (AObj.box 43 [(.v (.int .i64 y31.1.1.period)), (.v (.int .i64 y31.1.1.phase))])))⟩
        obtain ⟨τ, X0, X0_2, X4, E4, E5, N0__4, hF, hP⟩ := hI
        refine w_ret ?_
        refine w_bkr ?_
        obtain rfl := some_inj h24
        refine cw_r ?_
        try dsimp only at hf21
        obtain rfl := some_inj hf21
        refine iq_r rfl fun hr34 => ?_
        obtain rfl := hr34
        refine w_bkr ?_
        refine cw_r ?_
        try dsimp only at h2
        refine w_bkr ?_
        obtain rfl := some_inj h2
        refine cw_r ?_
        try dsimp only at h
        obtain rfl := some_inj h
        have hn35 : (List.map (·.1) ([(j0, (AObj.box 123 [(.v (.int .i64 y31.2.finder.at_)), (.v (.int .i64 y31.2.finder.e)), (.mp j0_2)])), (j0_2, (AObj.map .s (mpF check_solver_of_V0 (Mp.get y31.2.known)) (Mp.n y31.2.known)))] : List (Nat × AObj))).Nodup := (List.nodup_cons.2 ⟨(by simp only [List.map_cons, List.map_nil, List.mem_cons, List.not_mem_nil, or_false, not_or]; exact (Gx.apart X0 X0_2 (by intro h; cases h))), (List.nodup_cons.2 ⟨(fun h => by simp at h), List.nodup_nil⟩)⟩)
        have he36 := Fr.eq (l := [(j0, (AObj.box 123 [(.v (.int .i64 y31.2.finder.at_)), (.v (.int .i64 y31.2.finder.e)), (.mp j0_2)])), (j0_2, (AObj.map .s (mpF check_solver_of_V0 (Mp.get y31.2.known)) (Mp.n y31.2.known)))]) hF hn35 (List.forall_mem_cons.2 ⟨⟨jl0, (Gx.back X0 hP (hF.lt jl0))⟩, (List.forall_mem_cons.2 ⟨⟨jl0_2, (Gx.back X0_2 hP (hF.lt jl0_2))⟩, (fun x hx => absurd hx (by simp))⟩)⟩)
        exact w_end (fun _ => rfl) (xr (rs := #[.cell 4 43, .tmp 5]) (cj4 X4.get E4 E5 TT)) ⟨[(j0, (AObj.box 123 [(.v (.int .i64 y31.2.finder.at_)), (.v (.int .i64 y31.2.finder.e)), (.mp j0_2)])), (j0_2, (AObj.map .s (mpF check_solver_of_V0 (Mp.get y31.2.known)) (Mp.n y31.2.known)))], hn35, (List.forall_mem_cons.2 ⟨⟨jl0, (ClO.bx (ClL.cons (Cn.cl (.v _) _) (ClL.cons (Cn.cl (.v _) _) (ClL.cons (Cl.mp jl0_2) ClL.nil))))⟩, (List.forall_mem_cons.2 ⟨⟨jl0_2, ((CnO.mp (fun _ => (.ag (CnL.cons (.v _) (CnL.cons (.v _) CnL.nil)))) _ _).cl _)⟩, (fun x hx => absurd hx (by simp))⟩)⟩), he36 ▸ hP, (.tu [(.ag [(.v (.int .i64 y31.1.1.period)), (.v (.int .i64 y31.1.1.phase))]), (.v (.bool true))]), (.refl _), (.tu (CnL.cons (.ag (CnL.cons (.v _) (CnL.cons (.v _) CnL.nil))) (CnL.cons (.v _) CnL.nil))), hK⟩
       ·refine xf (cj8 E0 E4 E10 E35 E36 E37 E47 hb33) ?_
        refine w_skip ?_
        refine w_bk ?_
        obtain rfl := some_inj h24
        have q45 := cj7 E0 E4 E10 E35 E36 E37 E47
        exact cw_n ⟨_, WkE.refl _, _, _, _, τ, rfl, X0, X0_2, X4, (xv q45), (xv q45), (xv q45), (xv q45), (xv q45), N0__4, hF, hP⟩
      obtain ⟨v0_25, v0_2_26, v4_27, τ, rfl, X0, X0_2, X4, E0, E4, E35, E36, E37, N0__4, hF, hP⟩ := hI
      try dsimp only at hf21
      refine w_x (cj9 E0 E4 E35 E36 E37 X0.get X0_2.get X4.get TT) (k := ?_)
      obtain rfl := some_inj hf21
      have q46 := cj9 E0 E4 E35 E36 E37 X0.get X0_2.get X4.get TT
      exact iq_n rfl ⟨_, WkE.refl _, _, _, _, _, τ, rfl, X0, X0_2, X4, (xv q46), (xv q46), (xv q46), (xv q46), (xv q46), N0__4, hF, hP⟩
     ·refine xf (cj7 E0 E4 E35 E36 E37 E38 hb22) ?_
      refine w_exit ?_
      refine w_sqx ?_
      obtain rfl := some_inj hf21
      refine iq_x rfl fun hr37 => ?_
      obtain rfl := hr37
      refine w_bkx ?_
      exact cw_n ⟨_, WkE.refl _, _, _, _, τ, rfl, X0, X0_2, X4, (xv (cj6 E0 E4 E35 E36 E37 E38)), N0__4, hF, hP⟩
    obtain ⟨v0_13, v0_2_14, v4_15, τ, rfl, X0, X0_2, X4, E4, N0__4, hF, hP⟩ := hI
    try dsimp only at h2
    refine w_sa (fun e s => ∃ τ : Store, Gx s j0 (AObj.box 123 [(.v (.int .i64 v0_13.finder.at_)), (.v (.int .i64 v0_13.finder.e)), (.mp j0_2)]) ∧ Gx s j0_2 (AObj.map .s (mpF check_solver_of_V0 (Mp.get v0_2_14)) (Mp.n v0_2_14)) ∧ Bx σ s i4 43 [(.v (.int .i64 (0 : Int))), (.v (.int .i64 (0 : Int)))] ∧ e 4 = (.pt i4 0) ∧ e 5 = (.v (.bool false)) ∧ j0 ≠ i4 ∧ Fr σ τ [j0, j0_2] ∧ Pre τ s) ?_ fun e s hI => ?_
    ·refine w_x (cj8 E4 X0.get X0_2.get X4.get (X0.ne (Ne.symm N0__4) (some (AObj.box 43 [(.v (.int .i64 (0 : Int))), (.v (.int .i64 (0 : Int)))]))).get (X0_2.ne (Gx.apart X4.gx X0_2 (by intro h; cases h)) (some (AObj.box 43 [(.v (.int .i64 (0 : Int))), (.v (.int .i64 (0 : Int)))]))).get (X4.same 43 [(.v (.int .i64 (0 : Int))), (.v (.int .i64 (0 : Int)))]).get TT) (k := ?_)
     have q47 := Gx.apart X4.gx X0_2 (by intro h; cases h)
     have q48 := X4.same 43 [(.v (.int .i64 (0 : Int))), (.v (.int .i64 (0 : Int)))]
     have q49 := X0.ne (Ne.symm N0__4) (some (AObj.box 43 [(.v (.int .i64 (0 : Int))), (.v (.int .i64 (0 : Int)))]))
     have q50 := cj8 E4 X0.get X0_2.get X4.get q49.get (X0_2.ne q47 (some (AObj.box 43 [(.v (.int .i64 (0 : Int))), (.v (.int .i64 (0 : Int)))]))).get q48.get TT
     exact cw_n ⟨_, WkE.refl _, τ, q49, (X0_2.ne q47 (some (AObj.box 43 [(.v (.int .i64 (0 : Int))), (.v (.int .i64 (0 : Int)))]))), q48, (xv q50), (xv q50), N0__4, hF, (hP.set (hF.ge X4.le) (some (AObj.box 43 [(.v (.int .i64 (0 : Int))), (.v (.int .i64 (0 : Int)))])))⟩
    obtain ⟨τ, X0, X0_2, X4, E4, E5, N0__4, hF, hP⟩ := hI
    refine w_ret ?_
    refine w_bkr ?_
    obtain rfl := some_inj h2
    refine cw_r ?_
    try dsimp only at h
    obtain rfl := some_inj h
    have hn38 : (List.map (·.1) ([(j0, (AObj.box 123 [(.v (.int .i64 v0_13.finder.at_)), (.v (.int .i64 v0_13.finder.e)), (.mp j0_2)])), (j0_2, (AObj.map .s (mpF check_solver_of_V0 (Mp.get v0_2_14)) (Mp.n v0_2_14)))] : List (Nat × AObj))).Nodup := (List.nodup_cons.2 ⟨(by simp only [List.map_cons, List.map_nil, List.mem_cons, List.not_mem_nil, or_false, not_or]; exact (Gx.apart X0 X0_2 (by intro h; cases h))), (List.nodup_cons.2 ⟨(fun h => by simp at h), List.nodup_nil⟩)⟩)
    have he39 := Fr.eq (l := [(j0, (AObj.box 123 [(.v (.int .i64 v0_13.finder.at_)), (.v (.int .i64 v0_13.finder.e)), (.mp j0_2)])), (j0_2, (AObj.map .s (mpF check_solver_of_V0 (Mp.get v0_2_14)) (Mp.n v0_2_14)))]) hF hn38 (List.forall_mem_cons.2 ⟨⟨jl0, (Gx.back X0 hP (hF.lt jl0))⟩, (List.forall_mem_cons.2 ⟨⟨jl0_2, (Gx.back X0_2 hP (hF.lt jl0_2))⟩, (fun x hx => absurd hx (by simp))⟩)⟩)
    exact w_end (fun _ => rfl) (xr (rs := #[.cell 4 43, .tmp 5]) (cj4 X4.get E4 E5 TT)) ⟨[(j0, (AObj.box 123 [(.v (.int .i64 v0_13.finder.at_)), (.v (.int .i64 v0_13.finder.e)), (.mp j0_2)])), (j0_2, (AObj.map .s (mpF check_solver_of_V0 (Mp.get v0_2_14)) (Mp.n v0_2_14)))], hn38, (List.forall_mem_cons.2 ⟨⟨jl0, (ClO.bx (ClL.cons (Cn.cl (.v _) _) (ClL.cons (Cn.cl (.v _) _) (ClL.cons (Cl.mp jl0_2) ClL.nil))))⟩, (List.forall_mem_cons.2 ⟨⟨jl0_2, ((CnO.mp (fun _ => (.ag (CnL.cons (.v _) (CnL.cons (.v _) CnL.nil)))) _ _).cl _)⟩, (fun x hx => absurd hx (by simp))⟩)⟩), he39 ▸ hP, (.tu [(.ag [(.v (.int .i64 (0 : Int))), (.v (.int .i64 (0 : Int)))]), (.v (.bool false))]), (.refl _), (.tu (CnL.cons (.ag (CnL.cons (.v _) (CnL.cons (.v _) CnL.nil))) (CnL.cons (.v _) CnL.nil))), hK⟩
   ·refine xf (cj5 E0 E3 E4 E32 hb10) ?_
    refine w_skip ?_
    refine w_bk ?_
    obtain rfl := some_inj h2
    have q51 := cj4 E0 E3 E4 E32
    exact cw_n ⟨_, WkE.refl _, _, _, _, τ, rfl, X0, X0_2, X3, X4, (xv q51), (xv q51), (xv q51), N0__3, N0__4, N3__4, hF, hP⟩
 obtain ⟨v0_3, v0_2_4, v4_5, τ, rfl, X0, X0_2, X3, X4, E0, E3, E4, N0__3, N0__4, N3__4, hF, hP⟩ := hI
 try dsimp only at h
 obtain ⟨y40, h41, h⟩ := bnd_some h
 obtain ⟨y42, h43, h⟩ := bnd_some h
 refine w_sa (fun e s => ∃ i12 : Nat, ∃ τ : Store, Gx s j0 (AObj.box 123 [(.v (.int .i64 y42.2.finder.at_)), (.v (.int .i64 y42.2.finder.e)), (.mp j0_2)]) ∧ Gx s j0_2 (AObj.map .s (mpF check_solver_of_V0 (Mp.get y42.2.known)) (Mp.n y42.2.known)) ∧ Bx σ s i12 43 [(.v (.int .i64 y42.1.1.period)), (.v (.int .i64 y42.1.1.phase))] ∧ Bx σ s i3 39 (check_solver_of_A0 a1) ∧ Bx σ s i4 43 [(.v (.int .i64 v4_5.period)), (.v (.int .i64 v4_5.phase))] ∧ e 0 = (.pt j0 0) ∧ e 3 = (.pt i3 0) ∧ e 4 = (.pt i4 0) ∧ e 12 = (.pt i12 0) ∧ e 13 = (.v (.bool y42.1.2)) ∧ j0 ≠ i12 ∧ j0 ≠ i3 ∧ j0 ≠ i4 ∧ i12 ≠ i4 ∧ i3 ≠ i4 ∧ Fr σ τ [j0, j0_2] ∧ Pre τ s) ?_ fun e s hI => ?_
 ·have R44 : (Expr.rows a1.args)[((0 : Int)).toNat]? = some [(.v (.int .i64 y40.kind)), (.v (.string y40.name)), (.v (.int .i64 y40.n)), (.v (.int .i64 y40.d)), (.sl (Expr.rows y40.args)), (.v (.int .i64 y40.at_))] := Expr.rget (getI_some h41).2
  have q52 := Gx.apart X0 X0_2 (by intro h; cases h)
  have q53 := Gx.same X0 (AObj.box 123 [(.v (.int .i64 y42.2.finder.at_)), (.v (.int .i64 y42.2.finder.e)), (.mp j0_2)])
  have q54 := X3.ne N0__3 (some (AObj.box 123 [(.v (.int .i64 y42.2.finder.at_)), (.v (.int .i64 y42.2.finder.e)), (.mp j0_2)]))
  have q55 := X4.ne N0__4 (some (AObj.box 123 [(.v (.int .i64 y42.2.finder.at_)), (.v (.int .i64 y42.2.finder.e)), (.mp j0_2)]))
  refine w_x (cj7 E0 E3 E4 X0.get X0.any X0.any2 (cj20 X0_2.get X0_2.any X0_2.any2 X3.get X3.any X3.any2 X4.get X4.any X4.any2 R44 (getI_some h41).1 q53.get (X0_2.ne q52 (some (AObj.box 123 [(.v (.int .i64 y42.2.finder.at_)), (.v (.int .i64 y42.2.finder.e)), (.mp j0_2)]))).get q54.get q55.get (q53.ne (Gx.apart (X0_2.ne q52 (some (AObj.box 123 [(.v (.int .i64 y42.2.finder.at_)), (.v (.int .i64 y42.2.finder.e)), (.mp j0_2)]))) q53 (by intro h; cases h)) (some (AObj.map .s (mpF check_solver_of_V0 (Mp.get y42.2.known)) (Mp.n y42.2.known)))).get (Gx.same (X0_2.ne q52 (some (AObj.box 123 [(.v (.int .i64 y42.2.finder.at_)), (.v (.int .i64 y42.2.finder.e)), (.mp j0_2)]))) (AObj.map .s (mpF check_solver_of_V0 (Mp.get y42.2.known)) (Mp.n y42.2.known))).get (q54.ne (Gx.apart (X0_2.ne q52 (some (AObj.box 123 [(.v (.int .i64 y42.2.finder.at_)), (.v (.int .i64 y42.2.finder.e)), (.mp j0_2)]))) q54.gx (by intro h; cases h)) (some (AObj.map .s (mpF check_solver_of_V0 (Mp.get y42.2.known)) (Mp.n y42.2.known)))).get (q55.ne (Gx.apart (X0_2.ne q52 (some (AObj.box 123 [(.v (.int .i64 y42.2.finder.at_)), (.v (.int .i64 y42.2.finder.e)), (.mp j0_2)]))) q55.gx (by intro h; cases h)) (some (AObj.map .s (mpF check_solver_of_V0 (Mp.get y42.2.known)) (Mp.n y42.2.known)))).get TT)) (k := ?_)
  refine EC.wka (.cons (.refl _) (.cons (.refl _) .nil)) (S_check_solver_of _ _ _ h43 _ _ _ _ X0 X0_2 ?_)
  have q56 := Gx.apart X0 X0_2 (by intro h; cases h)
  have q57 := Gx.same X0 (AObj.box 123 [(.v (.int .i64 y42.2.finder.at_)), (.v (.int .i64 y42.2.finder.e)), (.mp j0_2)])
  have q58 := X3.ne N0__3 (some (AObj.box 123 [(.v (.int .i64 y42.2.finder.at_)), (.v (.int .i64 y42.2.finder.e)), (.mp j0_2)]))
  have q59 := X4.ne N0__4 (some (AObj.box 123 [(.v (.int .i64 y42.2.finder.at_)), (.v (.int .i64 y42.2.finder.e)), (.mp j0_2)]))
  refine w_y (cj7 E0 E3 E4 X0.get X0.any X0.any2 (cj20 X0_2.get X0_2.any X0_2.any2 X3.get X3.any X3.any2 X4.get X4.any X4.any2 R44 (getI_some h41).1 q57.get (X0_2.ne q56 (some (AObj.box 123 [(.v (.int .i64 y42.2.finder.at_)), (.v (.int .i64 y42.2.finder.e)), (.mp j0_2)]))).get q58.get q59.get (q57.ne (Gx.apart (X0_2.ne q56 (some (AObj.box 123 [(.v (.int .i64 y42.2.finder.at_)), (.v (.int .i64 y42.2.finder.e)), (.mp j0_2)]))) q57 (by intro h; cases h)) (some (AObj.map .s (mpF check_solver_of_V0 (Mp.get y42.2.known)) (Mp.n y42.2.known)))).get (Gx.same (X0_2.ne q56 (some (AObj.box 123 [(.v (.int .i64 y42.2.finder.at_)), (.v (.int .i64 y42.2.finder.e)), (.mp j0_2)]))) (AObj.map .s (mpF check_solver_of_V0 (Mp.get y42.2.known)) (Mp.n y42.2.known))).get (q58.ne (Gx.apart (X0_2.ne q56 (some (AObj.box 123 [(.v (.int .i64 y42.2.finder.at_)), (.v (.int .i64 y42.2.finder.e)), (.mp j0_2)]))) q58.gx (by intro h; cases h)) (some (AObj.map .s (mpF check_solver_of_V0 (Mp.get y42.2.known)) (Mp.n y42.2.known)))).get (q59.ne (Gx.apart (X0_2.ne q56 (some (AObj.box 123 [(.v (.int .i64 y42.2.finder.at_)), (.v (.int .i64 y42.2.finder.e)), (.mp j0_2)]))) q59.gx (by intro h; cases h)) (some (AObj.map .s (mpF check_solver_of_V0 (Mp.get y42.2.known)) (Mp.n y42.2.known)))).get TT)) (k := ?_)
  have q60 := Gx.apart X0 X0_2 (by intro h; cases h)
  have q61 := Gx.same X0 (AObj.box 123 [(.v (.int .i64 y42.2.finder.at_)), (.v (.int .i64 y42.2.finder.e)), (.mp j0_2)])
  have q62 := X3.ne N0__3 (some (AObj.box 123 [(.v (.int .i64 y42.2.finder.at_)), (.v (.int .i64 y42.2.finder.e)), (.mp j0_2)]))
  have q63 := X4.ne N0__4 (some (AObj.box 123 [(.v (.int .i64 y42.2.finder.at_)), (.v (.int .i64 y42.2.finder.e)), (.mp j0_2)]))
  have q64 := Gx.apart (X0_2.ne q60 (some (AObj.box 123 [(.v (.int .i64 y42.2.finder.at_)), (.v (.int .i64 y42.2.finder.e)), (.mp j0_2)]))) q61 (by intro h; cases h)
  have q65 := Gx.apart (X0_2.ne q60 (some (AObj.box 123 [(.v (.int .i64 y42.2.finder.at_)), (.v (.int .i64 y42.2.finder.e)), (.mp j0_2)]))) q62.gx (by intro h; cases h)
  have q66 := Gx.apart (X0_2.ne q60 (some (AObj.box 123 [(.v (.int .i64 y42.2.finder.at_)), (.v (.int .i64 y42.2.finder.e)), (.mp j0_2)]))) q63.gx (by intro h; cases h)
  have q67 := Gx.same (X0_2.ne q60 (some (AObj.box 123 [(.v (.int .i64 y42.2.finder.at_)), (.v (.int .i64 y42.2.finder.e)), (.mp j0_2)]))) (AObj.map .s (mpF check_solver_of_V0 (Mp.get y42.2.known)) (Mp.n y42.2.known))
  have q68 := cj20 X0_2.get X0_2.any X0_2.any2 X3.get X3.any X3.any2 X4.get X4.any X4.any2 R44 (getI_some h41).1 q61.get (X0_2.ne q60 (some (AObj.box 123 [(.v (.int .i64 y42.2.finder.at_)), (.v (.int .i64 y42.2.finder.e)), (.mp j0_2)]))).get q62.get q63.get (q61.ne q64 (some (AObj.map .s (mpF check_solver_of_V0 (Mp.get y42.2.known)) (Mp.n y42.2.known)))).get q67.get (q62.ne q65 (some (AObj.map .s (mpF check_solver_of_V0 (Mp.get y42.2.known)) (Mp.n y42.2.known)))).get (q63.ne q66 (some (AObj.map .s (mpF check_solver_of_V0 (Mp.get y42.2.known)) (Mp.n y42.2.known)))).get TT
  have q69 := cj7 E0 E3 E4 X0.get X0.any X0.any2 q68
  exact cw_n ⟨_, WkE.refl _, (List.set (List.set s j0 (some (AObj.box 123 [(.v (.int .i64 y42.2.finder.at_)), (.v (.int .i64 y42.2.finder.e)), (.mp j0_2)]))) j0_2 (some (AObj.map .s (mpF check_solver_of_V0 (Mp.get y42.2.known)) (Mp.n y42.2.known)))).length, (List.set (List.set τ j0 (some (AObj.box 123 [(.v (.int .i64 y42.2.finder.at_)), (.v (.int .i64 y42.2.finder.e)), (.mp j0_2)]))) j0_2 (some (AObj.map .s (mpF check_solver_of_V0 (Mp.get y42.2.known)) (Mp.n y42.2.known)))), ((q61.ne q64 (some (AObj.map .s (mpF check_solver_of_V0 (Mp.get y42.2.known)) (Mp.n y42.2.known)))).app [some (AObj.box 43 [(.v (.int .i64 y42.1.1.period)), (.v (.int .i64 y42.1.1.phase))])]), (q67.app [some (AObj.box 43 [(.v (.int .i64 y42.1.1.period)), (.v (.int .i64 y42.1.1.phase))])]), (Bx.newf ((hF.set (by simp) (some (AObj.box 123 [(.v (.int .i64 y42.2.finder.at_)), (.v (.int .i64 y42.2.finder.e)), (.mp j0_2)]))).set (by simp) (some (AObj.map .s (mpF check_solver_of_V0 (Mp.get y42.2.known)) (Mp.n y42.2.known)))) ((hP.setp (hF.lt jl0) (some (AObj.box 123 [(.v (.int .i64 y42.2.finder.at_)), (.v (.int .i64 y42.2.finder.e)), (.mp j0_2)]))).setp ((hF.set (by simp) (some (AObj.box 123 [(.v (.int .i64 y42.2.finder.at_)), (.v (.int .i64 y42.2.finder.e)), (.mp j0_2)]))).lt jl0_2) (some (AObj.map .s (mpF check_solver_of_V0 (Mp.get y42.2.known)) (Mp.n y42.2.known)))) 43 [(.v (.int .i64 y42.1.1.period)), (.v (.int .i64 y42.1.1.phase))]), ((q62.ne q65 (some (AObj.map .s (mpF check_solver_of_V0 (Mp.get y42.2.known)) (Mp.n y42.2.known)))).app [some (AObj.box 43 [(.v (.int .i64 y42.1.1.period)), (.v (.int .i64 y42.1.1.phase))])]), ((q63.ne q66 (some (AObj.map .s (mpF check_solver_of_V0 (Mp.get y42.2.known)) (Mp.n y42.2.known)))).app [some (AObj.box 43 [(.v (.int .i64 y42.1.1.period)), (.v (.int .i64 y42.1.1.phase))])]), (xv q69), (xv q69), (xv q69), (xv q69), (xv q69), (Nat.ne_of_lt (q61.ne q64 (some (AObj.map .s (mpF check_solver_of_V0 (Mp.get y42.2.known)) (Mp.n y42.2.known)))).lt), N0__3, N0__4, (Ne.symm (Nat.ne_of_lt (q63.ne q66 (some (AObj.map .s (mpF check_solver_of_V0 (Mp.get y42.2.known)) (Mp.n y42.2.known)))).lt)), N3__4, ((hF.set (by simp) (some (AObj.box 123 [(.v (.int .i64 y42.2.finder.at_)), (.v (.int .i64 y42.2.finder.e)), (.mp j0_2)]))).set (by simp) (some (AObj.map .s (mpF check_solver_of_V0 (Mp.get y42.2.known)) (Mp.n y42.2.known)))), (((hP.setp (hF.lt jl0) (some (AObj.box 123 [(.v (.int .i64 y42.2.finder.at_)), (.v (.int .i64 y42.2.finder.e)), (.mp j0_2)]))).setp ((hF.set (by simp) (some (AObj.box 123 [(.v (.int .i64 y42.2.finder.at_)), (.v (.int .i64 y42.2.finder.e)), (.mp j0_2)]))).lt jl0_2) (some (AObj.map .s (mpF check_solver_of_V0 (Mp.get y42.2.known)) (Mp.n y42.2.known)))).app _)⟩
 obtain ⟨i12, τ, X0, X0_2, X12, X3, X4, E0, E3, E4, E12, E13, N0__12, N0__3, N0__4, N12__4, N3__4, hF, hP⟩ := hI
 refine w_assoc ?_
 refine w_sa (fun e s => ∃ τ : Store, Gx s j0 (AObj.box 123 [(.v (.int .i64 y42.2.finder.at_)), (.v (.int .i64 y42.2.finder.e)), (.mp j0_2)]) ∧ Gx s j0_2 (AObj.map .s (mpF check_solver_of_V0 (Mp.get y42.2.known)) (Mp.n y42.2.known)) ∧ Bx σ s i12 43 [(.v (.int .i64 y42.1.1.period)), (.v (.int .i64 y42.1.1.phase))] ∧ Bx σ s i3 39 (check_solver_of_A0 a1) ∧ Bx σ s i4 43 [(.v (.int .i64 v4_5.period)), (.v (.int .i64 v4_5.phase))] ∧ e 0 = (.pt j0 0) ∧ e 3 = (.pt i3 0) ∧ e 4 = (.pt i4 0) ∧ e 12 = (.pt i12 0) ∧ e 69 = (.v (.bool ((!y42.1.2) || (!decide (y42.2.finder.e = (0 : Int)))))) ∧ j0 ≠ i12 ∧ j0 ≠ i3 ∧ j0 ≠ i4 ∧ i12 ≠ i4 ∧ i3 ≠ i4 ∧ Fr σ τ [j0, j0_2] ∧ Pre τ s) ?_ fun e s hI => ?_
 ·cases hb45 : (!y42.1.2)
  ·refine w_x (cj12 E0 E3 E4 E12 E13 X0.get X0_2.get X12.get X3.get X4.get hb45 TT) (k := ?_)
   have q70 := cj12 E0 E3 E4 E12 E13 X0.get X0_2.get X12.get X3.get X4.get hb45 TT
   exact cw_n ⟨_, WkE.refl _, τ, X0, X0_2, X12, X3, X4, (xv q70), (xv q70), (xv q70), (xv q70), (xv q70), N0__12, N0__3, N0__4, N12__4, N3__4, hF, hP⟩
  ·refine w_x (cj12 E0 E3 E4 E12 E13 X0.get X0_2.get X12.get X3.get X4.get hb45 TT) (k := ?_)
   have q71 := cj12 E0 E3 E4 E12 E13 X0.get X0_2.get X12.get X3.get X4.get hb45 TT
   exact cw_n ⟨_, WkE.refl _, τ, X0, X0_2, X12, X3, X4, (xv q71), (xv q71), (xv q71), (xv q71), (xv q71), N0__12, N0__3, N0__4, N12__4, N3__4, hF, hP⟩
 obtain ⟨τ, X0, X0_2, X12, X3, X4, E0, E3, E4, E12, E69, N0__12, N0__3, N0__4, N12__4, N3__4, hF, hP⟩ := hI
 refine w_seq ?_
 rcases ite_some h with ⟨hb46, h⟩ | ⟨hb46, h⟩
 ·refine xt (cj6 E0 E3 E4 E12 E69 hb46) ?_
  refine w_sa (fun e s => ∃ τ : Store, Gx s j0 (AObj.box 123 [(.v (.int .i64 y42.2.finder.at_)), (.v (.int .i64 y42.2.finder.e)), (.mp j0_2)]) ∧ Gx s j0_2 (AObj.map .s (mpF check_solver_of_V0 (Mp.get y42.2.known)) (Mp.n y42.2.known)) ∧ Bx σ s i4 43 [(.v (.int .i64 (0 : Int))), (.v (.int .i64 (0 : Int)))] ∧ e 4 = (.pt i4 0) ∧ e 5 = (.v (.bool false)) ∧ j0 ≠ i4 ∧ Fr σ τ [j0, j0_2] ∧ Pre τ s) ?_ fun e s hI => ?_
  ·refine w_x (cj16 E0 E3 E4 E12 E69 X0.get X0_2.get X12.get X3.get X4.get (X0.ne (Ne.symm N0__4) (some (AObj.box 43 [(.v (.int .i64 (0 : Int))), (.v (.int .i64 (0 : Int)))]))).get (X0_2.ne (Gx.apart X4.gx X0_2 (by intro h; cases h)) (some (AObj.box 43 [(.v (.int .i64 (0 : Int))), (.v (.int .i64 (0 : Int)))]))).get (X12.ne (Ne.symm N12__4) (some (AObj.box 43 [(.v (.int .i64 (0 : Int))), (.v (.int .i64 (0 : Int)))]))).get (X3.ne (Ne.symm N3__4) (some (AObj.box 43 [(.v (.int .i64 (0 : Int))), (.v (.int .i64 (0 : Int)))]))).get (X4.same 43 [(.v (.int .i64 (0 : Int))), (.v (.int .i64 (0 : Int)))]).get TT) (k := ?_)
   have q72 := Gx.apart X4.gx X0_2 (by intro h; cases h)
   have q73 := X4.same 43 [(.v (.int .i64 (0 : Int))), (.v (.int .i64 (0 : Int)))]
   have q74 := X0.ne (Ne.symm N0__4) (some (AObj.box 43 [(.v (.int .i64 (0 : Int))), (.v (.int .i64 (0 : Int)))]))
   have q75 := X3.ne (Ne.symm N3__4) (some (AObj.box 43 [(.v (.int .i64 (0 : Int))), (.v (.int .i64 (0 : Int)))]))
   have q76 := X12.ne (Ne.symm N12__4) (some (AObj.box 43 [(.v (.int .i64 (0 : Int))), (.v (.int .i64 (0 : Int)))]))
   have q77 := cj16 E0 E3 E4 E12 E69 X0.get X0_2.get X12.get X3.get X4.get q74.get (X0_2.ne q72 (some (AObj.box 43 [(.v (.int .i64 (0 : Int))), (.v (.int .i64 (0 : Int)))]))).get q76.get q75.get q73.get TT
   exact cw_n ⟨_, WkE.refl _, τ, q74, (X0_2.ne q72 (some (AObj.box 43 [(.v (.int .i64 (0 : Int))), (.v (.int .i64 (0 : Int)))]))), q73, (xv q77), (xv q77), N0__4, hF, (hP.set (hF.ge X4.le) (some (AObj.box 43 [(.v (.int .i64 (0 : Int))), (.v (.int .i64 (0 : Int)))])))⟩
  obtain ⟨τ, X0, X0_2, X4, E4, E5, N0__4, hF, hP⟩ := hI
  refine w_ret ?_
  refine w_sqr ?_
  obtain rfl := some_inj h
  have hn47 : (List.map (·.1) ([(j0, (AObj.box 123 [(.v (.int .i64 y42.2.finder.at_)), (.v (.int .i64 y42.2.finder.e)), (.mp j0_2)])), (j0_2, (AObj.map .s (mpF check_solver_of_V0 (Mp.get y42.2.known)) (Mp.n y42.2.known)))] : List (Nat × AObj))).Nodup := (List.nodup_cons.2 ⟨(by simp only [List.map_cons, List.map_nil, List.mem_cons, List.not_mem_nil, or_false, not_or]; exact (Gx.apart X0 X0_2 (by intro h; cases h))), (List.nodup_cons.2 ⟨(fun h => by simp at h), List.nodup_nil⟩)⟩)
  have he48 := Fr.eq (l := [(j0, (AObj.box 123 [(.v (.int .i64 y42.2.finder.at_)), (.v (.int .i64 y42.2.finder.e)), (.mp j0_2)])), (j0_2, (AObj.map .s (mpF check_solver_of_V0 (Mp.get y42.2.known)) (Mp.n y42.2.known)))]) hF hn47 (List.forall_mem_cons.2 ⟨⟨jl0, (Gx.back X0 hP (hF.lt jl0))⟩, (List.forall_mem_cons.2 ⟨⟨jl0_2, (Gx.back X0_2 hP (hF.lt jl0_2))⟩, (fun x hx => absurd hx (by simp))⟩)⟩)
  exact w_end (fun _ => rfl) (xr (rs := #[.cell 4 43, .tmp 5]) (cj4 X4.get E4 E5 TT)) ⟨[(j0, (AObj.box 123 [(.v (.int .i64 y42.2.finder.at_)), (.v (.int .i64 y42.2.finder.e)), (.mp j0_2)])), (j0_2, (AObj.map .s (mpF check_solver_of_V0 (Mp.get y42.2.known)) (Mp.n y42.2.known)))], hn47, (List.forall_mem_cons.2 ⟨⟨jl0, (ClO.bx (ClL.cons (Cn.cl (.v _) _) (ClL.cons (Cn.cl (.v _) _) (ClL.cons (Cl.mp jl0_2) ClL.nil))))⟩, (List.forall_mem_cons.2 ⟨⟨jl0_2, ((CnO.mp (fun _ => (.ag (CnL.cons (.v _) (CnL.cons (.v _) CnL.nil)))) _ _).cl _)⟩, (fun x hx => absurd hx (by simp))⟩)⟩), he48 ▸ hP, (.tu [(.ag [(.v (.int .i64 (0 : Int))), (.v (.int .i64 (0 : Int)))]), (.v (.bool false))]), (.refl _), (.tu (CnL.cons (.ag (CnL.cons (.v _) (CnL.cons (.v _) CnL.nil))) (CnL.cons (.v _) CnL.nil))), hK⟩
 ·refine xf (cj6 E0 E3 E4 E12 E69 hb46) ?_
  refine w_skip ?_
  refine w_sq ?_
  obtain ⟨y49, h50, h⟩ := bnd_some h
  refine w_sa (fun e s => ∃ i14 : Nat, ∃ τ : Store, Gx s j0 (AObj.box 123 [(.v (.int .i64 y42.2.finder.at_)), (.v (.int .i64 y42.2.finder.e)), (.mp j0_2)]) ∧ Gx s j0_2 (AObj.map .s (mpF check_solver_of_V0 (Mp.get y42.2.known)) (Mp.n y42.2.known)) ∧ Bx σ s i14 43 [(.v (.int .i64 y49.1.period)), (.v (.int .i64 y49.1.phase))] ∧ Bx σ s i3 39 (check_solver_of_A0 a1) ∧ Bx σ s i4 43 [(.v (.int .i64 v4_5.period)), (.v (.int .i64 v4_5.phase))] ∧ e 0 = (.pt j0 0) ∧ e 3 = (.pt i3 0) ∧ e 4 = (.pt i4 0) ∧ e 14 = (.pt i14 0) ∧ e 15 = (.v (.int .i64 y49.2)) ∧ j0 ≠ i14 ∧ j0 ≠ i3 ∧ j0 ≠ i4 ∧ i14 ≠ i4 ∧ i3 ≠ i4 ∧ Fr σ τ [j0, j0_2] ∧ Pre τ s) ?_ fun e s hI => ?_
  ·refine w_x (cj2 E0 (cj20 E3 E4 E12 E69 X0.get X0.any X0.any2 X0_2.get X0_2.any X0_2.any2 X12.get X12.any X12.any2 X3.get X3.any X3.any2 X4.get X4.any X4.any2 TT)) (k := ?_)
   refine EC.wka (.cons (.refl _) (.cons (.refl _) .nil)) (S_clock_Apply _ _ _ h50 _ _  ?_)
   refine w_y (cj2 E0 (cj20 E3 E4 E12 E69 X0.get X0.any X0.any2 X0_2.get X0_2.any X0_2.any2 X12.get X12.any X12.any2 X3.get X3.any X3.any2 X4.get X4.any X4.any2 TT)) (k := ?_)
   have q78 := cj20 E3 E4 E12 E69 X0.get X0.any X0.any2 X0_2.get X0_2.any X0_2.any2 X12.get X12.any X12.any2 X3.get X3.any X3.any2 X4.get X4.any X4.any2 TT
   exact cw_n ⟨_, WkE.refl _, s.length, τ, (X0.app [some (AObj.box 43 [(.v (.int .i64 y49.1.period)), (.v (.int .i64 y49.1.phase))])]), (X0_2.app [some (AObj.box 43 [(.v (.int .i64 y49.1.period)), (.v (.int .i64 y49.1.phase))])]), (Bx.newf hF hP 43 [(.v (.int .i64 y49.1.period)), (.v (.int .i64 y49.1.phase))]), (X3.app [some (AObj.box 43 [(.v (.int .i64 y49.1.period)), (.v (.int .i64 y49.1.phase))])]), (X4.app [some (AObj.box 43 [(.v (.int .i64 y49.1.period)), (.v (.int .i64 y49.1.phase))])]), (xv (cj2 E0 q78)), (xv (cj2 E0 q78)), (xv (cj2 E0 q78)), (xv (cj2 E0 q78)), (xv (cj2 E0 q78)), (Nat.ne_of_lt X0.lt), N0__3, N0__4, (Ne.symm (Nat.ne_of_lt X4.lt)), N3__4, hF, (hP.app _)⟩
  obtain ⟨i14, τ, X0, X0_2, X14, X3, X4, E0, E3, E4, E14, E15, N0__14, N0__3, N0__4, N14__4, N3__4, hF, hP⟩ := hI
  refine w_assoc ?_
  refine w_sa (fun e s => ∃ τ : Store, Gx s j0 (AObj.box 123 [(.v (.int .i64 y42.2.finder.at_)), (.v (.int .i64 y42.2.finder.e)), (.mp j0_2)]) ∧ Gx s j0_2 (AObj.map .s (mpF check_solver_of_V0 (Mp.get y42.2.known)) (Mp.n y42.2.known)) ∧ Bx σ s i14 43 [(.v (.int .i64 y49.1.period)), (.v (.int .i64 y49.1.phase))] ∧ Bx σ s i3 39 (check_solver_of_A0 a1) ∧ Bx σ s i4 43 [(.v (.int .i64 v4_5.period)), (.v (.int .i64 v4_5.phase))] ∧ e 0 = (.pt j0 0) ∧ e 3 = (.pt i3 0) ∧ e 4 = (.pt i4 0) ∧ e 14 = (.pt i14 0) ∧ e 15 = (.v (.int .i64 y49.2)) ∧ e 84 = (.v (.bool (!decide (y49.2 = (0 : Int))))) ∧ j0 ≠ i14 ∧ j0 ≠ i3 ∧ j0 ≠ i4 ∧ i14 ≠ i4 ∧ i3 ≠ i4 ∧ Fr σ τ [j0, j0_2] ∧ Pre τ s) ?_ fun e s hI => ?_
  ·refine w_x (cj11 E0 E3 E4 E14 E15 X0.get X0_2.get X14.get X3.get X4.get TT) (k := ?_)
   have q79 := cj11 E0 E3 E4 E14 E15 X0.get X0_2.get X14.get X3.get X4.get TT
   exact cw_n ⟨_, WkE.refl _, τ, X0, X0_2, X14, X3, X4, (xv q79), (xv q79), (xv q79), (xv q79), (xv q79), (xv q79), N0__14, N0__3, N0__4, N14__4, N3__4, hF, hP⟩
  obtain ⟨τ, X0, X0_2, X14, X3, X4, E0, E3, E4, E14, E15, E84, N0__14, N0__3, N0__4, N14__4, N3__4, hF, hP⟩ := hI
  refine w_seq ?_
  rcases ite_some h with ⟨hb51, h⟩ | ⟨hb51, h⟩
  ·refine xt (cj7 E0 E3 E4 E14 E15 E84 hb51) ?_
   obtain ⟨y52, h53, h⟩ := bnd_some h
   refine w_sa (fun e s => ∃ τ : Store, Gx s j0 (AObj.box 123 [(.v (.int .i64 y52.2.finder.at_)), (.v (.int .i64 y52.2.finder.e)), (.mp j0_2)]) ∧ Gx s j0_2 (AObj.map .s (mpF check_solver_of_V0 (Mp.get y52.2.known)) (Mp.n y52.2.known)) ∧ Bx σ s i4 43 [(.v (.int .i64 v4_5.period)), (.v (.int .i64 v4_5.phase))] ∧ e 4 = (.pt i4 0) ∧ j0 ≠ i4 ∧ Fr σ τ [j0, j0_2] ∧ Pre τ s) ?_ fun e s hI => ?_
   ·have q80 := Gx.apart X0 X0_2 (by intro h; cases h)
    have q81 := Gx.same X0 (AObj.box 123 [(.v (.int .i64 y52.2.finder.at_)), (.v (.int .i64 y52.2.finder.e)), (.mp j0_2)])
    have q82 := X3.ne N0__3 (some (AObj.box 123 [(.v (.int .i64 y52.2.finder.at_)), (.v (.int .i64 y52.2.finder.e)), (.mp j0_2)]))
    have q83 := X4.ne N0__4 (some (AObj.box 123 [(.v (.int .i64 y52.2.finder.at_)), (.v (.int .i64 y52.2.finder.e)), (.mp j0_2)]))
    have q84 := X14.ne N0__14 (some (AObj.box 123 [(.v (.int .i64 y52.2.finder.at_)), (.v (.int .i64 y52.2.finder.e)), (.mp j0_2)]))
    refine w_xd 6 0 (cj3 E0 E3 (cj20 E4 E14 E15 E84 X0.get X0_2.get X14.get X3.get X4.get q81.get (X0_2.ne q80 (some (AObj.box 123 [(.v (.int .i64 y52.2.finder.at_)), (.v (.int .i64 y52.2.finder.e)), (.mp j0_2)]))).get q84.get q82.get q83.get (q81.ne (Gx.apart (X0_2.ne q80 (some (AObj.box 123 [(.v (.int .i64 y52.2.finder.at_)), (.v (.int .i64 y52.2.finder.e)), (.mp j0_2)]))) q81 (by intro h; cases h)) (some (AObj.map .s (mpF check_solver_of_V0 (Mp.get y52.2.known)) (Mp.n y52.2.known)))).get (Gx.same (X0_2.ne q80 (some (AObj.box 123 [(.v (.int .i64 y52.2.finder.at_)), (.v (.int .i64 y52.2.finder.e)), (.mp j0_2)]))) (AObj.map .s (mpF check_solver_of_V0 (Mp.get y52.2.known)) (Mp.n y52.2.known))).get (q84.ne (Gx.apart (X0_2.ne q80 (some (AObj.box 123 [(.v (.int .i64 y52.2.finder.at_)), (.v (.int .i64 y52.2.finder.e)), (.mp j0_2)]))) q84.gx (by intro h; cases h)) (some (AObj.map .s (mpF check_solver_of_V0 (Mp.get y52.2.known)) (Mp.n y52.2.known)))).get (q82.ne (Gx.apart (X0_2.ne q80 (some (AObj.box 123 [(.v (.int .i64 y52.2.finder.at_)), (.v (.int .i64 y52.2.finder.e)), (.mp j0_2)]))) q82.gx (by intro h; cases h)) (some (AObj.map .s (mpF check_solver_of_V0 (Mp.get y52.2.known)) (Mp.n y52.2.known)))).get (q83.ne (Gx.apart (X0_2.ne q80 (some (AObj.box 123 [(.v (.int .i64 y52.2.finder.at_)), (.v (.int .i64 y52.2.finder.e)), (.mp j0_2)]))) q83.gx (by intro h; cases h)) (some (AObj.map .s (mpF check_solver_of_V0 (Mp.get y52.2.known)) (Mp.n y52.2.known)))).get TT)) (hk := ?_)
    have q85 := Gx.apart X0 X0_2 (by intro h; cases h)
    have q86 := Gx.same X0 (AObj.box 123 [(.v (.int .i64 y52.2.finder.at_)), (.v (.int .i64 y52.2.finder.e)), (.mp j0_2)])
    have q87 := X3.ne N0__3 (some (AObj.box 123 [(.v (.int .i64 y52.2.finder.at_)), (.v (.int .i64 y52.2.finder.e)), (.mp j0_2)]))
    have q88 := X4.ne N0__4 (some (AObj.box 123 [(.v (.int .i64 y52.2.finder.at_)), (.v (.int .i64 y52.2.finder.e)), (.mp j0_2)]))
    have q89 := X14.ne N0__14 (some (AObj.box 123 [(.v (.int .i64 y52.2.finder.at_)), (.v (.int .i64 y52.2.finder.e)), (.mp j0_2)]))
    refine w_xs (cj3 E0 E3 (cj20 E4 E14 E15 E84 X0.get X0_2.get X14.get X3.get X4.get q86.get (X0_2.ne q85 (some (AObj.box 123 [(.v (.int .i64 y52.2.finder.at_)), (.v (.int .i64 y52.2.finder.e)), (.mp j0_2)]))).get q89.get q87.get q88.get (q86.ne (Gx.apart (X0_2.ne q85 (some (AObj.box 123 [(.v (.int .i64 y52.2.finder.at_)), (.v (.int .i64 y52.2.finder.e)), (.mp j0_2)]))) q86 (by intro h; cases h)) (some (AObj.map .s (mpF check_solver_of_V0 (Mp.get y52.2.known)) (Mp.n y52.2.known)))).get (Gx.same (X0_2.ne q85 (some (AObj.box 123 [(.v (.int .i64 y52.2.finder.at_)), (.v (.int .i64 y52.2.finder.e)), (.mp j0_2)]))) (AObj.map .s (mpF check_solver_of_V0 (Mp.get y52.2.known)) (Mp.n y52.2.known))).get (q89.ne (Gx.apart (X0_2.ne q85 (some (AObj.box 123 [(.v (.int .i64 y52.2.finder.at_)), (.v (.int .i64 y52.2.finder.e)), (.mp j0_2)]))) q89.gx (by intro h; cases h)) (some (AObj.map .s (mpF check_solver_of_V0 (Mp.get y52.2.known)) (Mp.n y52.2.known)))).get (q87.ne (Gx.apart (X0_2.ne q85 (some (AObj.box 123 [(.v (.int .i64 y52.2.finder.at_)), (.v (.int .i64 y52.2.finder.e)), (.mp j0_2)]))) q87.gx (by intro h; cases h)) (some (AObj.map .s (mpF check_solver_of_V0 (Mp.get y52.2.known)) (Mp.n y52.2.known)))).get (q88.ne (Gx.apart (X0_2.ne q85 (some (AObj.box 123 [(.v (.int .i64 y52.2.finder.at_)), (.v (.int .i64 y52.2.finder.e)), (.mp j0_2)]))) q88.gx (by intro h; cases h)) (some (AObj.map .s (mpF check_solver_of_V0 (Mp.get y52.2.known)) (Mp.n y52.2.known)))).get TT)) (k := ?_)
    refine EC.wka (.cons (.refl _) (.cons (.refl _) (.cons (.refl _) .nil))) (S_check_finder_fail_in_check_solver _ _ _ _ h53 _ _ _ _ X0 X0_2 ?_)
    have q90 := Gx.apart X0 X0_2 (by intro h; cases h)
    have q91 := Gx.same X0 (AObj.box 123 [(.v (.int .i64 y52.2.finder.at_)), (.v (.int .i64 y52.2.finder.e)), (.mp j0_2)])
    have q92 := X3.ne N0__3 (some (AObj.box 123 [(.v (.int .i64 y52.2.finder.at_)), (.v (.int .i64 y52.2.finder.e)), (.mp j0_2)]))
    have q93 := X4.ne N0__4 (some (AObj.box 123 [(.v (.int .i64 y52.2.finder.at_)), (.v (.int .i64 y52.2.finder.e)), (.mp j0_2)]))
    have q94 := X14.ne N0__14 (some (AObj.box 123 [(.v (.int .i64 y52.2.finder.at_)), (.v (.int .i64 y52.2.finder.e)), (.mp j0_2)]))
    refine w_y (cj3 E0 E3 (cj20 E4 E14 E15 E84 X0.get X0_2.get X14.get X3.get X4.get q91.get (X0_2.ne q90 (some (AObj.box 123 [(.v (.int .i64 y52.2.finder.at_)), (.v (.int .i64 y52.2.finder.e)), (.mp j0_2)]))).get q94.get q92.get q93.get (q91.ne (Gx.apart (X0_2.ne q90 (some (AObj.box 123 [(.v (.int .i64 y52.2.finder.at_)), (.v (.int .i64 y52.2.finder.e)), (.mp j0_2)]))) q91 (by intro h; cases h)) (some (AObj.map .s (mpF check_solver_of_V0 (Mp.get y52.2.known)) (Mp.n y52.2.known)))).get (Gx.same (X0_2.ne q90 (some (AObj.box 123 [(.v (.int .i64 y52.2.finder.at_)), (.v (.int .i64 y52.2.finder.e)), (.mp j0_2)]))) (AObj.map .s (mpF check_solver_of_V0 (Mp.get y52.2.known)) (Mp.n y52.2.known))).get (q94.ne (Gx.apart (X0_2.ne q90 (some (AObj.box 123 [(.v (.int .i64 y52.2.finder.at_)), (.v (.int .i64 y52.2.finder.e)), (.mp j0_2)]))) q94.gx (by intro h; cases h)) (some (AObj.map .s (mpF check_solver_of_V0 (Mp.get y52.2.known)) (Mp.n y52.2.known)))).get (q92.ne (Gx.apart (X0_2.ne q90 (some (AObj.box 123 [(.v (.int .i64 y52.2.finder.at_)), (.v (.int .i64 y52.2.finder.e)), (.mp j0_2)]))) q92.gx (by intro h; cases h)) (some (AObj.map .s (mpF check_solver_of_V0 (Mp.get y52.2.known)) (Mp.n y52.2.known)))).get (q93.ne (Gx.apart (X0_2.ne q90 (some (AObj.box 123 [(.v (.int .i64 y52.2.finder.at_)), (.v (.int .i64 y52.2.finder.e)), (.mp j0_2)]))) q93.gx (by intro h; cases h)) (some (AObj.map .s (mpF check_solver_of_V0 (Mp.get y52.2.known)) (Mp.n y52.2.known)))).get TT)) (k := ?_)
    have q95 := Gx.apart X0 X0_2 (by intro h; cases h)
    have q96 := Gx.same X0 (AObj.box 123 [(.v (.int .i64 y52.2.finder.at_)), (.v (.int .i64 y52.2.finder.e)), (.mp j0_2)])
    have q97 := X4.ne N0__4 (some (AObj.box 123 [(.v (.int .i64 y52.2.finder.at_)), (.v (.int .i64 y52.2.finder.e)), (.mp j0_2)]))
    have q98 := X3.ne N0__3 (some (AObj.box 123 [(.v (.int .i64 y52.2.finder.at_)), (.v (.int .i64 y52.2.finder.e)), (.mp j0_2)]))
    have q99 := X14.ne N0__14 (some (AObj.box 123 [(.v (.int .i64 y52.2.finder.at_)), (.v (.int .i64 y52.2.finder.e)), (.mp j0_2)]))
    have q100 := Gx.apart (X0_2.ne q95 (some (AObj.box 123 [(.v (.int .i64 y52.2.finder.at_)), (.v (.int .i64 y52.2.finder.e)), (.mp j0_2)]))) q96 (by intro h; cases h)
    have q101 := Gx.apart (X0_2.ne q95 (some (AObj.box 123 [(.v (.int .i64 y52.2.finder.at_)), (.v (.int .i64 y52.2.finder.e)), (.mp j0_2)]))) q97.gx (by intro h; cases h)
    have q102 := Gx.same (X0_2.ne q95 (some (AObj.box 123 [(.v (.int .i64 y52.2.finder.at_)), (.v (.int .i64 y52.2.finder.e)), (.mp j0_2)]))) (AObj.map .s (mpF check_solver_of_V0 (Mp.get y52.2.known)) (Mp.n y52.2.known))
    exact cw_n ⟨_, WkE.refl _, (List.set (List.set τ j0 (some (AObj.box 123 [(.v (.int .i64 y52.2.finder.at_)), (.v (.int .i64 y52.2.finder.e)), (.mp j0_2)]))) j0_2 (some (AObj.map .s (mpF check_solver_of_V0 (Mp.get y52.2.known)) (Mp.n y52.2.known)))), (q96.ne q100 (some (AObj.map .s (mpF check_solver_of_V0 (Mp.get y52.2.known)) (Mp.n y52.2.known)))), q102, (q97.ne q101 (some (AObj.map .s (mpF check_solver_of_V0 (Mp.get y52.2.known)) (Mp.n y52.2.known)))), (xv (cj3 E0 E3 (cj20 E4 E14 E15 E84 X0.get X0_2.get X14.get X3.get X4.get q96.get (X0_2.ne q95 (some (AObj.box 123 [(.v (.int .i64 y52.2.finder.at_)), (.v (.int .i64 y52.2.finder.e)), (.mp j0_2)]))).get q99.get q98.get q97.get (q96.ne q100 (some (AObj.map .s (mpF check_solver_of_V0 (Mp.get y52.2.known)) (Mp.n y52.2.known)))).get q102.get (q99.ne (Gx.apart (X0_2.ne q95 (some (AObj.box 123 [(.v (.int .i64 y52.2.finder.at_)), (.v (.int .i64 y52.2.finder.e)), (.mp j0_2)]))) q99.gx (by intro h; cases h)) (some (AObj.map .s (mpF check_solver_of_V0 (Mp.get y52.2.known)) (Mp.n y52.2.known)))).get (q98.ne (Gx.apart (X0_2.ne q95 (some (AObj.box 123 [(.v (.int .i64 y52.2.finder.at_)), (.v (.int .i64 y52.2.finder.e)), (.mp j0_2)]))) q98.gx (by intro h; cases h)) (some (AObj.map .s (mpF check_solver_of_V0 (Mp.get y52.2.known)) (Mp.n y52.2.known)))).get (q97.ne q101 (some (AObj.map .s (mpF check_solver_of_V0 (Mp.get y52.2.known)) (Mp.n y52.2.known)))).get TT))), N0__4, ((hF.set (by simp) (some (AObj.box 123 [(.v (.int .i64 y52.2.finder.at_)), (.v (.int .i64 y52.2.finder.e)), (.mp j0_2)]))).set (by simp) (some (AObj.map .s (mpF check_solver_of_V0 (Mp.get y52.2.known)) (Mp.n y52.2.known)))), ((hP.setp (hF.lt jl0) (some (AObj.box 123 [(.v (.int .i64 y52.2.finder.at_)), (.v (.int .i64 y52.2.finder.e)), (.mp j0_2)]))).setp ((hF.set (by simp) (some (AObj.box 123 [(.v (.int .i64 y52.2.finder.at_)), (.v (.int .i64 y52.2.finder.e)), (.mp j0_2)]))).lt jl0_2) (some (AObj.map .s (mpF check_solver_of_V0 (Mp.get y52.2.known)) (Mp.n y52.2.known))))⟩
   obtain ⟨τ, X0, X0_2, X4, E4, N0__4, hF, hP⟩ := hI
   refine w_sa (fun e s => ∃ τ : Store, Gx s j0 (AObj.box 123 [(.v (.int .i64 y52.2.finder.at_)), (.v (.int .i64 y52.2.finder.e)), (.mp j0_2)]) ∧ Gx s j0_2 (AObj.map .s (mpF check_solver_of_V0 (Mp.get y52.2.known)) (Mp.n y52.2.known)) ∧ Bx σ s i4 43 [(.v (.int .i64 (0 : Int))), (.v (.int .i64 (0 : Int)))] ∧ e 4 = (.pt i4 0) ∧ e 5 = (.v (.bool false)) ∧ j0 ≠ i4 ∧ Fr σ τ [j0, j0_2] ∧ Pre τ s) ?_ fun e s hI => ?_
   ·refine w_x (cj8 E4 X0.get X0_2.get X4.get (X0.ne (Ne.symm N0__4) (some (AObj.box 43 [(.v (.int .i64 (0 : Int))), (.v (.int .i64 (0 : Int)))]))).get (X0_2.ne (Gx.apart X4.gx X0_2 (by intro h; cases h)) (some (AObj.box 43 [(.v (.int .i64 (0 : Int))), (.v (.int .i64 (0 : Int)))]))).get (X4.same 43 [(.v (.int .i64 (0 : Int))), (.v (.int .i64 (0 : Int)))]).get TT) (k := ?_)
    have q103 := Gx.apart X4.gx X0_2 (by intro h; cases h)
    have q104 := X4.same 43 [(.v (.int .i64 (0 : Int))), (.v (.int .i64 (0 : Int)))]
    have q105 := X0.ne (Ne.symm N0__4) (some (AObj.box 43 [(.v (.int .i64 (0 : Int))), (.v (.int .i64 (0 : Int)))]))
    have q106 := cj8 E4 X0.get X0_2.get X4.get q105.get (X0_2.ne q103 (some (AObj.box 43 [(.v (.int .i64 (0 : Int))), (.v (.int .i64 (0 : Int)))]))).get q104.get TT
    exact cw_n ⟨_, WkE.refl _, τ, q105, (X0_2.ne q103 (some (AObj.box 43 [(.v (.int .i64 (0 : Int))), (.v (.int .i64 (0 : Int)))]))), q104, (xv q106), (xv q106), N0__4, hF, (hP.set (hF.ge X4.le) (some (AObj.box 43 [(.v (.int .i64 (0 : Int))), (.v (.int .i64 (0 : Int)))])))⟩
   obtain ⟨τ, X0, X0_2, X4, E4, E5, N0__4, hF, hP⟩ := hI
   refine w_ret ?_
   refine w_sqr ?_
   obtain rfl := some_inj h
   have hn54 : (List.map (·.1) ([(j0, (AObj.box 123 [(.v (.int .i64 y52.2.finder.at_)), (.v (.int .i64 y52.2.finder.e)), (.mp j0_2)])), (j0_2, (AObj.map .s (mpF check_solver_of_V0 (Mp.get y52.2.known)) (Mp.n y52.2.known)))] : List (Nat × AObj))).Nodup := (List.nodup_cons.2 ⟨(by simp only [List.map_cons, List.map_nil, List.mem_cons, List.not_mem_nil, or_false, not_or]; exact (Gx.apart X0 X0_2 (by intro h; cases h))), (List.nodup_cons.2 ⟨(fun h => by simp at h), List.nodup_nil⟩)⟩)
   have he55 := Fr.eq (l := [(j0, (AObj.box 123 [(.v (.int .i64 y52.2.finder.at_)), (.v (.int .i64 y52.2.finder.e)), (.mp j0_2)])), (j0_2, (AObj.map .s (mpF check_solver_of_V0 (Mp.get y52.2.known)) (Mp.n y52.2.known)))]) hF hn54 (List.forall_mem_cons.2 ⟨⟨jl0, (Gx.back X0 hP (hF.lt jl0))⟩, (List.forall_mem_cons.2 ⟨⟨jl0_2, (Gx.back X0_2 hP (hF.lt jl0_2))⟩, (fun x hx => absurd hx (by simp))⟩)⟩)
   exact w_end (fun _ => rfl) (xr (rs := #[.cell 4 43, .tmp 5]) (cj4 X4.get E4 E5 TT)) ⟨[(j0, (AObj.box 123 [(.v (.int .i64 y52.2.finder.at_)), (.v (.int .i64 y52.2.finder.e)), (.mp j0_2)])), (j0_2, (AObj.map .s (mpF check_solver_of_V0 (Mp.get y52.2.known)) (Mp.n y52.2.known)))], hn54, (List.forall_mem_cons.2 ⟨⟨jl0, (ClO.bx (ClL.cons (Cn.cl (.v _) _) (ClL.cons (Cn.cl (.v _) _) (ClL.cons (Cl.mp jl0_2) ClL.nil))))⟩, (List.forall_mem_cons.2 ⟨⟨jl0_2, ((CnO.mp (fun _ => (.ag (CnL.cons (.v _) (CnL.cons (.v _) CnL.nil)))) _ _).cl _)⟩, (fun x hx => absurd hx (by simp))⟩)⟩), he55 ▸ hP, (.tu [(.ag [(.v (.int .i64 (0 : Int))), (.v (.int .i64 (0 : Int)))]), (.v (.bool false))]), (.refl _), (.tu (CnL.cons (.ag (CnL.cons (.v _) (CnL.cons (.v _) CnL.nil))) (CnL.cons (.v _) CnL.nil))), hK⟩
  ·refine xf (cj7 E0 E3 E4 E14 E15 E84 hb51) ?_
   refine w_skip ?_
   refine w_sq ?_
   refine w_sa (fun e s => ∃ τ : Store, Gx s j0 (AObj.box 123 [(.v (.int .i64 y42.2.finder.at_)), (.v (.int .i64 y42.2.finder.e)), (.mp j0_2)]) ∧ Gx s j0_2 (AObj.map .s (mpF check_solver_of_V0 (Mp.get y42.2.known)) (Mp.n y42.2.known)) ∧ Bx σ s i4 43 [(.v (.int .i64 y49.1.period)), (.v (.int .i64 y49.1.phase))] ∧ e 4 = (.pt i4 0) ∧ e 5 = (.v (.bool true)) ∧ j0 ≠ i4 ∧ Fr σ τ [j0, j0_2] ∧ Pre τ s) ?_ fun e s hI => ?_
   ·refine w_x (cj17 E0 E3 E4 E14 E15 E84 X0.get X0_2.get X14.get X3.get X4.get (X0.ne (Ne.symm N0__4) (some (AObj.box 43 [(.v (.int .i64 y49.1.period)), (.v (.int .i64 y49.1.phase))]))).get (X0_2.ne (Gx.apart X4.gx X0_2 (by intro h; cases h)) (some (AObj.box 43 [(.v (.int .i64 y49.1.period)), (.v (.int .i64 y49.1.phase))]))).get (X14.ne (Ne.symm N14__4) (some (AObj.box 43 [(.v (.int .i64 y49.1.period)), (.v (.int .i64 y49.1.phase))]))).get (X3.ne (Ne.symm N3__4) (some (AObj.box 43 [(.v (.int .i64 y49.1.period)), (.v (.int .i64 y49.1.phase))]))).get (X4.same 43 [(.v (.int .i64 y49.1.period)), (.v (.int .i64 y49.1.phase))]).get TT) (k := ?_)
    have q107 := Gx.apart X4.gx X0_2 (by intro h; cases h)
    have q108 := X4.same 43 [(.v (.int .i64 y49.1.period)), (.v (.int .i64 y49.1.phase))]
    have q109 := X0.ne (Ne.symm N0__4) (some (AObj.box 43 [(.v (.int .i64 y49.1.period)), (.v (.int .i64 y49.1.phase))]))
    have q110 := X3.ne (Ne.symm N3__4) (some (AObj.box 43 [(.v (.int .i64 y49.1.period)), (.v (.int .i64 y49.1.phase))]))
    have q111 := X14.ne (Ne.symm N14__4) (some (AObj.box 43 [(.v (.int .i64 y49.1.period)), (.v (.int .i64 y49.1.phase))]))
    have q112 := cj17 E0 E3 E4 E14 E15 E84 X0.get X0_2.get X14.get X3.get X4.get q109.get (X0_2.ne q107 (some (AObj.box 43 [(.v (.int .i64 y49.1.period)), (.v (.int .i64 y49.1.phase))]))).get q111.get q110.get q108.get TT
    exact cw_n ⟨_, WkE.refl _, τ, q109, (X0_2.ne q107 (some (AObj.box 43 [(.v (.int .i64 y49.1.period)), (.v (.int .i64 y49.1.phase))]))), q108, (xv q112), (xv q112), N0__4, hF, (hP.set (hF.ge X4.le) (some (AObj.box 43 [(.v (.int .i64 y49.1.period)), (.v (.int .i64 y49.1.phase))])))⟩
   obtain ⟨τ, X0, X0_2, X4, E4, E5, N0__4, hF, hP⟩ := hI
   refine w_ret ?_
   obtain rfl := some_inj h
   have hn56 : (List.map (·.1) ([(j0, (AObj.box 123 [(.v (.int .i64 y42.2.finder.at_)), (.v (.int .i64 y42.2.finder.e)), (.mp j0_2)])), (j0_2, (AObj.map .s (mpF check_solver_of_V0 (Mp.get y42.2.known)) (Mp.n y42.2.known)))] : List (Nat × AObj))).Nodup := (List.nodup_cons.2 ⟨(by simp only [List.map_cons, List.map_nil, List.mem_cons, List.not_mem_nil, or_false, not_or]; exact (Gx.apart X0 X0_2 (by intro h; cases h))), (List.nodup_cons.2 ⟨(fun h => by simp at h), List.nodup_nil⟩)⟩)
   have he57 := Fr.eq (l := [(j0, (AObj.box 123 [(.v (.int .i64 y42.2.finder.at_)), (.v (.int .i64 y42.2.finder.e)), (.mp j0_2)])), (j0_2, (AObj.map .s (mpF check_solver_of_V0 (Mp.get y42.2.known)) (Mp.n y42.2.known)))]) hF hn56 (List.forall_mem_cons.2 ⟨⟨jl0, (Gx.back X0 hP (hF.lt jl0))⟩, (List.forall_mem_cons.2 ⟨⟨jl0_2, (Gx.back X0_2 hP (hF.lt jl0_2))⟩, (fun x hx => absurd hx (by simp))⟩)⟩)
   exact w_end (fun _ => rfl) (xr (rs := #[.cell 4 43, .tmp 5]) (cj4 X4.get E4 E5 TT)) ⟨[(j0, (AObj.box 123 [(.v (.int .i64 y42.2.finder.at_)), (.v (.int .i64 y42.2.finder.e)), (.mp j0_2)])), (j0_2, (AObj.map .s (mpF check_solver_of_V0 (Mp.get y42.2.known)) (Mp.n y42.2.known)))], hn56, (List.forall_mem_cons.2 ⟨⟨jl0, (ClO.bx (ClL.cons (Cn.cl (.v _) _) (ClL.cons (Cn.cl (.v _) _) (ClL.cons (Cl.mp jl0_2) ClL.nil))))⟩, (List.forall_mem_cons.2 ⟨⟨jl0_2, ((CnO.mp (fun _ => (.ag (CnL.cons (.v _) (CnL.cons (.v _) CnL.nil)))) _ _).cl _)⟩, (fun x hx => absurd hx (by simp))⟩)⟩), he57 ▸ hP, (.tu [(.ag [(.v (.int .i64 y49.1.period)), (.v (.int .i64 y49.1.phase))]), (.v (.bool true))]), (.refl _), (.tu (CnL.cons (.ag (CnL.cons (.v _) (CnL.cons (.v _) CnL.nil))) (CnL.cons (.v _) CnL.nil))), hK⟩
noncomputable def B_clock_Right (a0 : Clock) : Option Bool :=
 some ((((decide ((1 : Int) ≤ a0.period)) && (decide (a0.period ≤ (2000 : Int)))) && (decide ((0 : Int) ≤ a0.phase))) && (decide (a0.phase ≤ (2000 : Int))))
abbrev clock_Right_A0 (a0 : Clock) : List PV := [(.v (.int .i64 a0.period)), (.v (.int .i64 a0.phase))]
theorem W_clock_Right : Sat_clock_Right (B_clock_Right) := by
 intro a0 r h σ K hK
 refine w_fp Try.func65 rfl rfl (by kernel_rfl) ?_
 unfold B_clock_Right at h
 have hP := Pre.refl σ
 have E0 : argE [(.ag (clock_Right_A0 a0))] 0 = (.ag (clock_Right_A0 a0)) := rfl
 have TT := cj3 Expr.rlen T_2 T_43
 refine w_sa (fun e s => ∃ i1 : Nat, Bx σ s i1 43 (clock_Right_A0 a0) ∧ e 1 = (.pt i1 0) ∧ Pre σ s) ?_ fun e s hI => ?_
 ·refine w_x (cj2 E0 TT) (k := ?_)
  exact cw_n ⟨_, WkE.refl _, σ.length, (Bx.new hP 43 (clock_Right_A0 a0)), (xv (cj2 E0 TT)), (hP.app _)⟩
 obtain ⟨i1, X1, E1, hP⟩ := hI
 refine w_sa (fun e s => e 2 = (.v (.bool ((((decide ((1 : Int) ≤ a0.period)) && (decide (a0.period ≤ (2000 : Int)))) && (decide ((0 : Int) ≤ a0.phase))) && (decide (a0.phase ≤ (2000 : Int)))))) ∧ Pre σ s) ?_ fun e s hI => ?_
 ·cases hb1 : (decide ((1 : Int) ≤ a0.period))
  ·refine w_x (cj4 E1 X1.get hb1 TT) (k := ?_)
   exact cw_n ⟨_, WkE.refl _, (xv (cj4 E1 X1.get hb1 TT)), hP⟩
  ·cases hb2 : (decide (a0.period ≤ (2000 : Int)))
   ·refine w_x (cj5 E1 X1.get hb1 hb2 TT) (k := ?_)
    exact cw_n ⟨_, WkE.refl _, (xv (cj5 E1 X1.get hb1 hb2 TT)), hP⟩
   ·cases hb3 : (decide ((0 : Int) ≤ a0.phase))
    ·refine w_x (cj6 E1 X1.get hb1 hb2 hb3 TT) (k := ?_)
     exact cw_n ⟨_, WkE.refl _, (xv (cj6 E1 X1.get hb1 hb2 hb3 TT)), hP⟩
    ·refine w_x (cj6 E1 X1.get hb1 hb2 hb3 TT) (k := ?_)
     exact cw_n ⟨_, WkE.refl _, (xv (cj6 E1 X1.get hb1 hb2 hb3 TT)), hP⟩
 obtain ⟨E2, hP⟩ := hI
 refine w_ret ?_
 obtain rfl := some_inj h
 exact w_fin (fun _ => rfl) (xr (rs := #[.tmp 2]) E2) hP (r' := (.v (.bool ((((decide ((1 : Int) ≤ a0.period)) && (decide (a0.period ≤ (2000 : Int)))) && (decide ((0 : Int) ≤ a0.phase))) && (decide (a0.phase ≤ (2000 : Int))))))) (.refl _) (.v _) hK
noncomputable def B_clock_Apply (f_clock_Right : Clock → Option Bool) (f_clock_factor : Op → Option Int) (a0 : Clock) (a1 : Op) : Option (Clock × Int) :=
 (f_clock_factor a1).bind fun y1 =>
 (f_clock_Right a0).bind fun y3 =>
 (if (!y3) then
  some (12 : Int)
 else
  some y1 : Option Int).bind fun v6_7 =>
 if (!decide (v6_7 = (0 : Int))) then
  some ((Clock.mk (0 : Int) (0 : Int)), v6_7)
 else
  ((if (decide (a1.kind = (3 : Int))) then
   (remO a0.period a1.n).bind fun y19 =>
   (quoO .i64 a0.period a1.n).bind fun y21 =>
   some ((decide (y19 = (0 : Int))), (Clock.mk y21 a0.phase))
  else
   (if (decide (a1.kind = (4 : Int))) then
    some (true, (Clock.mk (IntKind.i64.wrap (a0.period * a1.n)) a0.phase))
   else
    (if (decide (a1.kind = (5 : Int))) then
     (remO (IntKind.i64.wrap (a0.period * a1.n)) a1.d).bind fun y33 =>
     (quoO .i64 (IntKind.i64.wrap (a0.period * a1.n)) a1.d).bind fun y35 =>
     some ((decide (y33 = (0 : Int))), (Clock.mk a0.period (IntKind.i64.wrap (a0.phase + y35))))
    else
     (if (decide (a1.kind = (7 : Int))) then
      some (true, (Clock.mk a0.period (IntKind.i64.wrap (a0.phase + a0.period))))
     else
      (if (decide (a1.kind = (8 : Int))) then
       some ((decide (a0.period ≤ a0.phase)), (Clock.mk a0.period (IntKind.i64.wrap (a0.phase - a0.period))))
      else
       some (true, a0) : Option (Bool × Clock)).bind fun (v7_44, v2_45) =>
      some (v7_44, v2_45) : Option (Bool × Clock)).bind fun (v7_39, v2_40) =>
     some (v7_39, v2_40) : Option (Bool × Clock)).bind fun (v7_30, v2_31) =>
    some (v7_30, v2_31) : Option (Bool × Clock)).bind fun (v7_25, v2_26) =>
   some (v7_25, v2_26) : Option (Bool × Clock)).bind fun (v7_16, v2_17) =>
  some (v7_16, v2_17) : Option (Bool × Clock)).bind fun (v7_12, v2_13) =>
  (if (!v7_12) then
   some (.inl ((Clock.mk (0 : Int) (0 : Int)), (5 : Int)))
  else
   (f_clock_Right v2_13).bind fun y51 =>
   if (!y51) then
    some (.inl ((Clock.mk (0 : Int) (0 : Int)), (7 : Int)))
   else
    some (.inr (Clock.mk (0 : Int) (0 : Int))) : Option ((Clock × Int) ⊕ Clock)).bind fun x => match x with
  | .inl r => some r
  | .inr v4_49 =>
   some (v2_13, (0 : Int))
abbrev clock_Apply_A0 (a0 : Clock) : List PV := [(.v (.int .i64 a0.period)), (.v (.int .i64 (IntKind.i64.wrap (a0.phase + a0.period))))]
abbrev clock_Apply_A1 (a0 : Clock) : List PV := [(.v (.int .i64 a0.period)), (.v (.int .i64 (IntKind.i64.wrap (a0.phase - a0.period))))]
abbrev clock_Apply_A2 (a0 : Clock) (a1 : Op) : List PV := [(.v (.int .i64 (IntKind.i64.wrap (a0.period * a1.n)))), (.v (.int .i64 a0.phase))]
abbrev clock_Apply_A3 (a1 : Op) : List PV := [(.v (.int .i64 a1.kind)), (.v (.int .i64 a1.n)), (.v (.int .i64 a1.d))]
abbrev clock_Apply_A4 (a0 : Clock) : List PV := [(.v (.int .i64 a0.period)), (.v (.int .i64 a0.phase))]
theorem W_clock_Apply (f_clock_Right : Clock → Option Bool) (f_clock_factor : Op → Option Int) (S_clock_Right : Sat_clock_Right f_clock_Right) (S_clock_factor : Sat_clock_factor f_clock_factor) : Sat_clock_Apply (B_clock_Apply f_clock_Right f_clock_factor) := by
 intro a0 a1 r h σ K hK
 refine w_fp Try.func92 rfl rfl (by kernel_rfl) ?_
 unfold B_clock_Apply at h
 have hP := Pre.refl σ
 have E0 : argE [(.ag (clock_Apply_A4 a0)), (.ag (clock_Apply_A3 a1))] 0 = (.ag (clock_Apply_A4 a0)) := rfl
 have E1 : argE [(.ag (clock_Apply_A4 a0)), (.ag (clock_Apply_A3 a1))] 1 = (.ag (clock_Apply_A3 a1)) := rfl
 have TT := cj6 Expr.rlen T_119 T_2 T_3 T_30 T_43
 refine w_sa (fun e s => ∃ i2 i3 i4 : Nat, Bx σ s i2 43 (clock_Apply_A4 a0) ∧ Bx σ s i3 119 (clock_Apply_A3 a1) ∧ Bx σ s i4 43 [(.v (.int .i64 (0 : Int))), (.v (.int .i64 (0 : Int)))] ∧ e 2 = (.pt i2 0) ∧ e 3 = (.pt i3 0) ∧ e 4 = (.pt i4 0) ∧ i2 ≠ i3 ∧ i2 ≠ i4 ∧ i3 ≠ i4 ∧ Pre σ s) ?_ fun e s hI => ?_
 ·refine w_x (cj3 E0 E1 TT) (k := ?_)
  have q1 := Bx.new hP 43 (clock_Apply_A4 a0)
  exact cw_n ⟨_, WkE.refl _, σ.length, (σ ++ [some (AObj.box 43 (clock_Apply_A4 a0))]).length, ((σ ++ [some (AObj.box 43 (clock_Apply_A4 a0))]) ++ [some (AObj.box 119 (clock_Apply_A3 a1))]).length, ((q1.app [some (AObj.box 119 (clock_Apply_A3 a1))]).app [some (AObj.box 43 [(.v (.int .i64 (0 : Int))), (.v (.int .i64 (0 : Int)))])]), ((Bx.new (hP.app _) 119 (clock_Apply_A3 a1)).app [some (AObj.box 43 [(.v (.int .i64 (0 : Int))), (.v (.int .i64 (0 : Int)))])]), (Bx.new ((hP.app _).app _) 43 [(.v (.int .i64 (0 : Int))), (.v (.int .i64 (0 : Int)))]), (xv (cj3 E0 E1 TT)), (xv (cj3 E0 E1 TT)), (xv (cj3 E0 E1 TT)), (Nat.ne_of_lt q1.lt), (Nat.ne_of_lt (q1.app [some (AObj.box 119 (clock_Apply_A3 a1))]).lt), (Nat.ne_of_lt (Bx.new (hP.app _) 119 (clock_Apply_A3 a1)).lt), (((hP.app _).app _).app _)⟩
 obtain ⟨i2, i3, i4, X2, X3, X4, E2, E3, E4, N2__3, N2__4, N3__4, hP⟩ := hI
 obtain ⟨y1, h2, h⟩ := bnd_some h
 refine w_sa (fun e s => Bx σ s i2 43 (clock_Apply_A4 a0) ∧ Bx σ s i3 119 (clock_Apply_A3 a1) ∧ Bx σ s i4 43 [(.v (.int .i64 (0 : Int))), (.v (.int .i64 (0 : Int)))] ∧ e 2 = (.pt i2 0) ∧ e 3 = (.pt i3 0) ∧ e 4 = (.pt i4 0) ∧ e 6 = (.v (.int .i64 y1)) ∧ i2 ≠ i3 ∧ i2 ≠ i4 ∧ i3 ≠ i4 ∧ Pre σ s) ?_ fun e s hI => ?_
 ·refine w_x (cj7 E2 E3 E4 X2.get X3.get X4.get TT) (k := ?_)
  refine EC.wka (.cons (.refl _) .nil) (S_clock_factor _ _ h2 _ _  ?_)
  refine w_y (cj7 E2 E3 E4 X2.get X3.get X4.get TT) (k := ?_)
  have q2 := cj7 E2 E3 E4 X2.get X3.get X4.get TT
  exact cw_n ⟨_, WkE.refl _, X2, X3, X4, (xv q2), (xv q2), (xv q2), (xv q2), N2__3, N2__4, N3__4, hP⟩
 obtain ⟨X2, X3, X4, E2, E3, E4, E6, N2__3, N2__4, N3__4, hP⟩ := hI
 refine w_assoc ?_
 obtain ⟨y3, h4, h⟩ := bnd_some h
 refine w_sa (fun e s => Bx σ s i2 43 (clock_Apply_A4 a0) ∧ Bx σ s i3 119 (clock_Apply_A3 a1) ∧ Bx σ s i4 43 [(.v (.int .i64 (0 : Int))), (.v (.int .i64 (0 : Int)))] ∧ e 2 = (.pt i2 0) ∧ e 3 = (.pt i3 0) ∧ e 4 = (.pt i4 0) ∧ e 6 = (.v (.int .i64 y1)) ∧ e 12 = (.v (.bool (!y3))) ∧ i2 ≠ i3 ∧ i2 ≠ i4 ∧ i3 ≠ i4 ∧ Pre σ s) ?_ fun e s hI => ?_
 ·refine w_x (cj8 E2 E3 E4 E6 X2.get X3.get X4.get TT) (k := ?_)
  refine EC.wka (.cons (.refl _) .nil) (S_clock_Right _ _ h4 _ _  ?_)
  refine w_y (cj8 E2 E3 E4 E6 X2.get X3.get X4.get TT) (k := ?_)
  have q3 := cj8 E2 E3 E4 E6 X2.get X3.get X4.get TT
  exact cw_n ⟨_, WkE.refl _, X2, X3, X4, (xv q3), (xv q3), (xv q3), (xv q3), (xv q3), N2__3, N2__4, N3__4, hP⟩
 obtain ⟨X2, X3, X4, E2, E3, E4, E6, E12, N2__3, N2__4, N3__4, hP⟩ := hI
 obtain ⟨x5, h6, h⟩ := bnd_some h
 refine w_sa (fun e s => ∃ v6_7 : Int, v6_7 = x5 ∧ Bx σ s i2 43 (clock_Apply_A4 a0) ∧ Bx σ s i3 119 (clock_Apply_A3 a1) ∧ Bx σ s i4 43 [(.v (.int .i64 (0 : Int))), (.v (.int .i64 (0 : Int)))] ∧ e 2 = (.pt i2 0) ∧ e 3 = (.pt i3 0) ∧ e 4 = (.pt i4 0) ∧ e 6 = (.v (.int .i64 v6_7)) ∧ i2 ≠ i3 ∧ i2 ≠ i4 ∧ i3 ≠ i4 ∧ Pre σ s) ?_ fun e s hI => ?_
 ·rcases ite_some h6 with ⟨hb8, h6⟩ | ⟨hb8, h6⟩
  ·refine xt (cj6 E2 E3 E4 E6 E12 hb8) ?_
   refine w_x (cj9 E2 E3 E4 E6 E12 X2.get X3.get X4.get TT) (k := ?_)
   obtain rfl := some_inj h6
   have q4 := cj9 E2 E3 E4 E6 E12 X2.get X3.get X4.get TT
   exact cw_n ⟨_, WkE.refl _, _, rfl, X2, X3, X4, (xv q4), (xv q4), (xv q4), (xv q4), N2__3, N2__4, N3__4, hP⟩
  ·refine xf (cj6 E2 E3 E4 E6 E12 hb8) ?_
   refine w_skip ?_
   obtain rfl := some_inj h6
   have q5 := cj5 E2 E3 E4 E6 E12
   exact cw_n ⟨_, WkE.refl _, _, rfl, X2, X3, X4, (xv q5), (xv q5), (xv q5), (xv q5), N2__3, N2__4, N3__4, hP⟩
 obtain ⟨v6_7, rfl, X2, X3, X4, E2, E3, E4, E6, N2__3, N2__4, N3__4, hP⟩ := hI
 try dsimp only at h
 refine w_assoc ?_
 refine w_sa (fun e s => Bx σ s i2 43 (clock_Apply_A4 a0) ∧ Bx σ s i3 119 (clock_Apply_A3 a1) ∧ Bx σ s i4 43 [(.v (.int .i64 (0 : Int))), (.v (.int .i64 (0 : Int)))] ∧ e 2 = (.pt i2 0) ∧ e 3 = (.pt i3 0) ∧ e 4 = (.pt i4 0) ∧ e 6 = (.v (.int .i64 v6_7)) ∧ e 14 = (.v (.bool (!decide (v6_7 = (0 : Int))))) ∧ i2 ≠ i3 ∧ i2 ≠ i4 ∧ i3 ≠ i4 ∧ Pre σ s) ?_ fun e s hI => ?_
 ·refine w_x (cj8 E2 E3 E4 E6 X2.get X3.get X4.get TT) (k := ?_)
  have q6 := cj8 E2 E3 E4 E6 X2.get X3.get X4.get TT
  exact cw_n ⟨_, WkE.refl _, X2, X3, X4, (xv q6), (xv q6), (xv q6), (xv q6), (xv q6), N2__3, N2__4, N3__4, hP⟩
 obtain ⟨X2, X3, X4, E2, E3, E4, E6, E14, N2__3, N2__4, N3__4, hP⟩ := hI
 refine w_seq ?_
 rcases ite_some h with ⟨hb9, h⟩ | ⟨hb9, h⟩
 ·refine xt (cj6 E2 E3 E4 E6 E14 hb9) ?_
  refine w_sa (fun e s => Bx σ s i4 43 [(.v (.int .i64 (0 : Int))), (.v (.int .i64 (0 : Int)))] ∧ e 4 = (.pt i4 0) ∧ e 5 = (.v (.int .i64 v6_7)) ∧ Pre σ s) ?_ fun e s hI => ?_
  ·refine w_x (cj12 E2 E3 E4 E6 E14 X2.get X3.get X4.get (X2.ne (Ne.symm N2__4) (some (AObj.box 43 [(.v (.int .i64 (0 : Int))), (.v (.int .i64 (0 : Int)))]))).get (X3.ne (Ne.symm N3__4) (some (AObj.box 43 [(.v (.int .i64 (0 : Int))), (.v (.int .i64 (0 : Int)))]))).get (X4.same 43 [(.v (.int .i64 (0 : Int))), (.v (.int .i64 (0 : Int)))]).get TT) (k := ?_)
   have q7 := X4.same 43 [(.v (.int .i64 (0 : Int))), (.v (.int .i64 (0 : Int)))]
   have q8 := X2.ne (Ne.symm N2__4) (some (AObj.box 43 [(.v (.int .i64 (0 : Int))), (.v (.int .i64 (0 : Int)))]))
   have q9 := X3.ne (Ne.symm N3__4) (some (AObj.box 43 [(.v (.int .i64 (0 : Int))), (.v (.int .i64 (0 : Int)))]))
   have q10 := cj12 E2 E3 E4 E6 E14 X2.get X3.get X4.get q8.get q9.get q7.get TT
   exact cw_n ⟨_, WkE.refl _, q7, (xv q10), (xv q10), (hP.set X4.le (some (AObj.box 43 [(.v (.int .i64 (0 : Int))), (.v (.int .i64 (0 : Int)))])))⟩
  obtain ⟨X4, E4, E5, hP⟩ := hI
  refine w_ret ?_
  refine w_sqr ?_
  obtain rfl := some_inj h
  exact w_fin (fun _ => rfl) (xr (rs := #[.cell 4 43, .tmp 5]) (cj4 X4.get E4 E5 TT)) hP (r' := (.tu [(.ag [(.v (.int .i64 (0 : Int))), (.v (.int .i64 (0 : Int)))]), (.v (.int .i64 v6_7))])) (.refl _) (.tu (CnL.cons (.ag (CnL.cons (.v _) (CnL.cons (.v _) CnL.nil))) (CnL.cons (.v _) CnL.nil))) hK
 ·refine xf (cj6 E2 E3 E4 E6 E14 hb9) ?_
  refine w_skip ?_
  refine w_sq ?_
  refine w_sa (fun e s => Bx σ s i2 43 (clock_Apply_A4 a0) ∧ Bx σ s i3 119 (clock_Apply_A3 a1) ∧ Bx σ s i4 43 [(.v (.int .i64 (0 : Int))), (.v (.int .i64 (0 : Int)))] ∧ e 2 = (.pt i2 0) ∧ e 3 = (.pt i3 0) ∧ e 4 = (.pt i4 0) ∧ e 7 = (.v (.bool true)) ∧ i2 ≠ i3 ∧ i2 ≠ i4 ∧ i3 ≠ i4 ∧ Pre σ s) ?_ fun e s hI => ?_
  ·refine w_x (cj9 E2 E3 E4 E6 E14 X2.get X3.get X4.get TT) (k := ?_)
   have q11 := cj9 E2 E3 E4 E6 E14 X2.get X3.get X4.get TT
   exact cw_n ⟨_, WkE.refl _, X2, X3, X4, (xv q11), (xv q11), (xv q11), (xv q11), N2__3, N2__4, N3__4, hP⟩
  obtain ⟨X2, X3, X4, E2, E3, E4, E7, N2__3, N2__4, N3__4, hP⟩ := hI
  refine w_assoc ?_
  refine w_sa (fun e s => Bx σ s i2 43 (clock_Apply_A4 a0) ∧ Bx σ s i3 119 (clock_Apply_A3 a1) ∧ Bx σ s i4 43 [(.v (.int .i64 (0 : Int))), (.v (.int .i64 (0 : Int)))] ∧ e 2 = (.pt i2 0) ∧ e 3 = (.pt i3 0) ∧ e 4 = (.pt i4 0) ∧ e 7 = (.v (.bool true)) ∧ e 18 = (.v (.int .i64 a1.kind)) ∧ i2 ≠ i3 ∧ i2 ≠ i4 ∧ i3 ≠ i4 ∧ Pre σ s) ?_ fun e s hI => ?_
  ·refine w_x (cj8 E2 E3 E4 E7 X2.get X3.get X4.get TT) (k := ?_)
   have q12 := cj8 E2 E3 E4 E7 X2.get X3.get X4.get TT
   exact cw_n ⟨_, WkE.refl _, X2, X3, X4, (xv q12), (xv q12), (xv q12), (xv q12), (xv q12), N2__3, N2__4, N3__4, hP⟩
  obtain ⟨X2, X3, X4, E2, E3, E4, E7, E18, N2__3, N2__4, N3__4, hP⟩ := hI
  obtain ⟨x10, h11, h⟩ := bnd_some h
  refine w_sa (fun e s => ∃ v7_12 : Bool, ∃ v2_13 : Clock, (v7_12, v2_13) = x10 ∧ Bx σ s i2 43 [(.v (.int .i64 v2_13.period)), (.v (.int .i64 v2_13.phase))] ∧ Bx σ s i4 43 [(.v (.int .i64 (0 : Int))), (.v (.int .i64 (0 : Int)))] ∧ e 2 = (.pt i2 0) ∧ e 4 = (.pt i4 0) ∧ e 7 = (.v (.bool v7_12)) ∧ i2 ≠ i4 ∧ Pre σ s) ?_ fun e s hI => ?_
  ·refine w_block ?_
   refine w_sa (fun e s => Bx σ s i2 43 (clock_Apply_A4 a0) ∧ Bx σ s i3 119 (clock_Apply_A3 a1) ∧ Bx σ s i4 43 [(.v (.int .i64 (0 : Int))), (.v (.int .i64 (0 : Int)))] ∧ e 2 = (.pt i2 0) ∧ e 3 = (.pt i3 0) ∧ e 4 = (.pt i4 0) ∧ e 7 = (.v (.bool true)) ∧ e 18 = (.v (.int .i64 a1.kind)) ∧ e 19 = (.v (.bool (decide (a1.kind = (3 : Int))))) ∧ i2 ≠ i3 ∧ i2 ≠ i4 ∧ i3 ≠ i4 ∧ Pre σ s) ?_ fun e s hI => ?_
   ·refine w_x (cj9 E2 E3 E4 E7 E18 X2.get X3.get X4.get TT) (k := ?_)
    have q13 := cj9 E2 E3 E4 E7 E18 X2.get X3.get X4.get TT
    exact cw_n ⟨_, WkE.refl _, X2, X3, X4, (xv q13), (xv q13), (xv q13), (xv q13), (xv q13), (xv q13), N2__3, N2__4, N3__4, hP⟩
   obtain ⟨X2, X3, X4, E2, E3, E4, E7, E18, E19, N2__3, N2__4, N3__4, hP⟩ := hI
   obtain ⟨x14, h15, h11⟩ := bnd_some h11
   refine w_an (fun e s => ∃ v7_16 : Bool, ∃ v2_17 : Clock, (v7_16, v2_17) = x14 ∧ Bx σ s i2 43 [(.v (.int .i64 v2_17.period)), (.v (.int .i64 v2_17.phase))] ∧ Bx σ s i4 43 [(.v (.int .i64 (0 : Int))), (.v (.int .i64 (0 : Int)))] ∧ e 2 = (.pt i2 0) ∧ e 4 = (.pt i4 0) ∧ e 7 = (.v (.bool v7_16)) ∧ i2 ≠ i4 ∧ Pre σ s) ?_ fun e s hI => ?_
   ·rcases ite_some h15 with ⟨hb18, h15⟩ | ⟨hb18, h15⟩
    ·refine xt (cj7 E2 E3 E4 E7 E18 E19 hb18) ?_
     obtain ⟨y19, h20, h15⟩ := bnd_some h15
     refine w_sa (fun e s => Bx σ s i2 43 (clock_Apply_A4 a0) ∧ Bx σ s i3 119 (clock_Apply_A3 a1) ∧ Bx σ s i4 43 [(.v (.int .i64 (0 : Int))), (.v (.int .i64 (0 : Int)))] ∧ e 2 = (.pt i2 0) ∧ e 3 = (.pt i3 0) ∧ e 4 = (.pt i4 0) ∧ e 7 = (.v (.bool (decide (y19 = (0 : Int))))) ∧ i2 ≠ i3 ∧ i2 ≠ i4 ∧ i3 ≠ i4 ∧ Pre σ s) ?_ fun e s hI => ?_
     ·refine w_x (cj12 E2 E3 E4 E7 E18 E19 X2.get X3.get X4.get (eq_false (remO_some h20).1) (remO_some h20).2 TT) (k := ?_)
      have q14 := cj12 E2 E3 E4 E7 E18 E19 X2.get X3.get X4.get (eq_false (remO_some h20).1) (remO_some h20).2 TT
      exact cw_n ⟨_, WkE.refl _, X2, X3, X4, (xv q14), (xv q14), (xv q14), (xv q14), N2__3, N2__4, N3__4, hP⟩
     obtain ⟨X2, X3, X4, E2, E3, E4, E7, N2__3, N2__4, N3__4, hP⟩ := hI
     obtain ⟨y21, h22, h15⟩ := bnd_some h15
     refine w_x (cj13 E2 E3 E4 E7 X2.get X3.get X4.get (eq_false (quoO_some h22).1) (quoO_some h22).2 (X2.same 43 [(.v (.int .i64 y21)), (.v (.int .i64 a0.phase))]).get (X3.ne N2__3 (some (AObj.box 43 [(.v (.int .i64 y21)), (.v (.int .i64 a0.phase))]))).get (X4.ne N2__4 (some (AObj.box 43 [(.v (.int .i64 y21)), (.v (.int .i64 a0.phase))]))).get TT) (k := ?_)
     obtain rfl := some_inj h15
     have q15 := X2.same 43 [(.v (.int .i64 y21)), (.v (.int .i64 a0.phase))]
     have q16 := X4.ne N2__4 (some (AObj.box 43 [(.v (.int .i64 y21)), (.v (.int .i64 a0.phase))]))
     have q17 := X3.ne N2__3 (some (AObj.box 43 [(.v (.int .i64 y21)), (.v (.int .i64 a0.phase))]))
     have q18 := cj13 E2 E3 E4 E7 X2.get X3.get X4.get (eq_false (quoO_some h22).1) (quoO_some h22).2 q15.get q17.get q16.get TT
     exact ct_n ⟨_, _, rfl, q15, q16, (xv q18), (xv q18), (xv q18), N2__4, (hP.set X2.le (some (AObj.box 43 [(.v (.int .i64 y21)), (.v (.int .i64 a0.phase))])))⟩
    ·refine xf (cj7 E2 E3 E4 E7 E18 E19 hb18) ?_
     refine w_sa (fun e s => Bx σ s i2 43 (clock_Apply_A4 a0) ∧ Bx σ s i3 119 (clock_Apply_A3 a1) ∧ Bx σ s i4 43 [(.v (.int .i64 (0 : Int))), (.v (.int .i64 (0 : Int)))] ∧ e 2 = (.pt i2 0) ∧ e 3 = (.pt i3 0) ∧ e 4 = (.pt i4 0) ∧ e 7 = (.v (.bool true)) ∧ e 18 = (.v (.int .i64 a1.kind)) ∧ e 33 = (.v (.bool (decide (a1.kind = (4 : Int))))) ∧ i2 ≠ i3 ∧ i2 ≠ i4 ∧ i3 ≠ i4 ∧ Pre σ s) ?_ fun e s hI => ?_
     ·refine w_x (cj10 E2 E3 E4 E7 E18 E19 X2.get X3.get X4.get TT) (k := ?_)
      have q19 := cj10 E2 E3 E4 E7 E18 E19 X2.get X3.get X4.get TT
      exact cw_n ⟨_, WkE.refl _, X2, X3, X4, (xv q19), (xv q19), (xv q19), (xv q19), (xv q19), (xv q19), N2__3, N2__4, N3__4, hP⟩
     obtain ⟨X2, X3, X4, E2, E3, E4, E7, E18, E33, N2__3, N2__4, N3__4, hP⟩ := hI
     obtain ⟨x23, h24, h15⟩ := bnd_some h15
     refine w_an (fun e s => ∃ v7_25 : Bool, ∃ v2_26 : Clock, (v7_25, v2_26) = x23 ∧ Bx σ s i2 43 [(.v (.int .i64 v2_26.period)), (.v (.int .i64 v2_26.phase))] ∧ Bx σ s i4 43 [(.v (.int .i64 (0 : Int))), (.v (.int .i64 (0 : Int)))] ∧ e 2 = (.pt i2 0) ∧ e 4 = (.pt i4 0) ∧ e 7 = (.v (.bool v7_25)) ∧ i2 ≠ i4 ∧ Pre σ s) ?_ fun e s hI => ?_
     ·rcases ite_some h24 with ⟨hb27, h24⟩ | ⟨hb27, h24⟩
      ·refine xt (cj7 E2 E3 E4 E7 E18 E33 hb27) ?_
       refine w_x (cj13 E2 E3 E4 E7 E18 E33 X2.get X3.get X4.get (X2.same 43 (clock_Apply_A2 a0 a1)).get (X3.ne N2__3 (some (AObj.box 43 (clock_Apply_A2 a0 a1)))).get (X4.ne N2__4 (some (AObj.box 43 (clock_Apply_A2 a0 a1)))).get TT) (k := ?_)
       obtain rfl := some_inj h24
       have q20 := X2.same 43 (clock_Apply_A2 a0 a1)
       have q21 := X4.ne N2__4 (some (AObj.box 43 (clock_Apply_A2 a0 a1)))
       have q22 := X3.ne N2__3 (some (AObj.box 43 (clock_Apply_A2 a0 a1)))
       have q23 := cj13 E2 E3 E4 E7 E18 E33 X2.get X3.get X4.get q20.get q22.get q21.get TT
       exact ct_n ⟨_, _, rfl, q20, q21, (xv q23), (xv q23), (xv q23), N2__4, (hP.set X2.le (some (AObj.box 43 (clock_Apply_A2 a0 a1))))⟩
      ·refine xf (cj7 E2 E3 E4 E7 E18 E33 hb27) ?_
       refine w_sa (fun e s => Bx σ s i2 43 (clock_Apply_A4 a0) ∧ Bx σ s i3 119 (clock_Apply_A3 a1) ∧ Bx σ s i4 43 [(.v (.int .i64 (0 : Int))), (.v (.int .i64 (0 : Int)))] ∧ e 2 = (.pt i2 0) ∧ e 3 = (.pt i3 0) ∧ e 4 = (.pt i4 0) ∧ e 7 = (.v (.bool true)) ∧ e 18 = (.v (.int .i64 a1.kind)) ∧ e 41 = (.v (.bool (decide (a1.kind = (5 : Int))))) ∧ i2 ≠ i3 ∧ i2 ≠ i4 ∧ i3 ≠ i4 ∧ Pre σ s) ?_ fun e s hI => ?_
       ·refine w_x (cj10 E2 E3 E4 E7 E18 E33 X2.get X3.get X4.get TT) (k := ?_)
        have q24 := cj10 E2 E3 E4 E7 E18 E33 X2.get X3.get X4.get TT
        exact cw_n ⟨_, WkE.refl _, X2, X3, X4, (xv q24), (xv q24), (xv q24), (xv q24), (xv q24), (xv q24), N2__3, N2__4, N3__4, hP⟩
       obtain ⟨X2, X3, X4, E2, E3, E4, E7, E18, E41, N2__3, N2__4, N3__4, hP⟩ := hI
       obtain ⟨x28, h29, h24⟩ := bnd_some h24
       refine w_an (fun e s => ∃ v7_30 : Bool, ∃ v2_31 : Clock, (v7_30, v2_31) = x28 ∧ Bx σ s i2 43 [(.v (.int .i64 v2_31.period)), (.v (.int .i64 v2_31.phase))] ∧ Bx σ s i4 43 [(.v (.int .i64 (0 : Int))), (.v (.int .i64 (0 : Int)))] ∧ e 2 = (.pt i2 0) ∧ e 4 = (.pt i4 0) ∧ e 7 = (.v (.bool v7_30)) ∧ i2 ≠ i4 ∧ Pre σ s) ?_ fun e s hI => ?_
       ·rcases ite_some h29 with ⟨hb32, h29⟩ | ⟨hb32, h29⟩
        ·refine xt (cj7 E2 E3 E4 E7 E18 E41 hb32) ?_
         obtain ⟨y33, h34, h29⟩ := bnd_some h29
         refine w_sa (fun e s => Bx σ s i2 43 (clock_Apply_A4 a0) ∧ Bx σ s i3 119 (clock_Apply_A3 a1) ∧ Bx σ s i4 43 [(.v (.int .i64 (0 : Int))), (.v (.int .i64 (0 : Int)))] ∧ e 2 = (.pt i2 0) ∧ e 3 = (.pt i3 0) ∧ e 4 = (.pt i4 0) ∧ e 7 = (.v (.bool (decide (y33 = (0 : Int))))) ∧ i2 ≠ i3 ∧ i2 ≠ i4 ∧ i3 ≠ i4 ∧ Pre σ s) ?_ fun e s hI => ?_
         ·refine w_x (cj12 E2 E3 E4 E7 E18 E41 X2.get X3.get X4.get (eq_false (remO_some h34).1) (remO_some h34).2 TT) (k := ?_)
          have q25 := cj12 E2 E3 E4 E7 E18 E41 X2.get X3.get X4.get (eq_false (remO_some h34).1) (remO_some h34).2 TT
          exact cw_n ⟨_, WkE.refl _, X2, X3, X4, (xv q25), (xv q25), (xv q25), (xv q25), N2__3, N2__4, N3__4, hP⟩
         obtain ⟨X2, X3, X4, E2, E3, E4, E7, N2__3, N2__4, N3__4, hP⟩ := hI
         obtain ⟨y35, h36, h29⟩ := bnd_some h29
         refine w_xd 10 0 (cj13 E2 E3 E4 E7 X2.get X3.get X4.get (eq_false (quoO_some h36).1) (quoO_some h36).2 (X2.same 43 [(.v (.int .i64 a0.period)), (.v (.int .i64 (IntKind.i64.wrap (a0.phase + y35))))]).get (X3.ne N2__3 (some (AObj.box 43 [(.v (.int .i64 a0.period)), (.v (.int .i64 (IntKind.i64.wrap (a0.phase + y35))))]))).get (X4.ne N2__4 (some (AObj.box 43 [(.v (.int .i64 a0.period)), (.v (.int .i64 (IntKind.i64.wrap (a0.phase + y35))))]))).get TT) (hk := ?_)
         refine w_xs (cj13 E2 E3 E4 E7 X2.get X3.get X4.get (eq_false (quoO_some h36).1) (quoO_some h36).2 (X2.same 43 [(.v (.int .i64 a0.period)), (.v (.int .i64 (IntKind.i64.wrap (a0.phase + y35))))]).get (X3.ne N2__3 (some (AObj.box 43 [(.v (.int .i64 a0.period)), (.v (.int .i64 (IntKind.i64.wrap (a0.phase + y35))))]))).get (X4.ne N2__4 (some (AObj.box 43 [(.v (.int .i64 a0.period)), (.v (.int .i64 (IntKind.i64.wrap (a0.phase + y35))))]))).get TT) (k := ?_)
         obtain rfl := some_inj h29
         have q26 := X2.same 43 [(.v (.int .i64 a0.period)), (.v (.int .i64 (IntKind.i64.wrap (a0.phase + y35))))]
         have q27 := X4.ne N2__4 (some (AObj.box 43 [(.v (.int .i64 a0.period)), (.v (.int .i64 (IntKind.i64.wrap (a0.phase + y35))))]))
         have q28 := X3.ne N2__3 (some (AObj.box 43 [(.v (.int .i64 a0.period)), (.v (.int .i64 (IntKind.i64.wrap (a0.phase + y35))))]))
         have q29 := cj13 E2 E3 E4 E7 X2.get X3.get X4.get (eq_false (quoO_some h36).1) (quoO_some h36).2 q26.get q28.get q27.get TT
         exact ct_n ⟨_, _, rfl, q26, q27, (xv q29), (xv q29), (xv q29), N2__4, (hP.set X2.le (some (AObj.box 43 [(.v (.int .i64 a0.period)), (.v (.int .i64 (IntKind.i64.wrap (a0.phase + y35))))])))⟩
        ·refine xf (cj7 E2 E3 E4 E7 E18 E41 hb32) ?_
         refine w_sa (fun e s => Bx σ s i2 43 (clock_Apply_A4 a0) ∧ Bx σ s i4 43 [(.v (.int .i64 (0 : Int))), (.v (.int .i64 (0 : Int)))] ∧ e 2 = (.pt i2 0) ∧ e 4 = (.pt i4 0) ∧ e 7 = (.v (.bool true)) ∧ e 18 = (.v (.int .i64 a1.kind)) ∧ e 64 = (.v (.bool (decide (a1.kind = (7 : Int))))) ∧ i2 ≠ i4 ∧ Pre σ s) ?_ fun e s hI => ?_
         ·refine w_x (cj10 E2 E3 E4 E7 E18 E41 X2.get X3.get X4.get TT) (k := ?_)
          have q30 := cj10 E2 E3 E4 E7 E18 E41 X2.get X3.get X4.get TT
          exact cw_n ⟨_, WkE.refl _, X2, X4, (xv q30), (xv q30), (xv q30), (xv q30), (xv q30), N2__4, hP⟩
         obtain ⟨X2, X4, E2, E4, E7, E18, E64, N2__4, hP⟩ := hI
         obtain ⟨x37, h38, h29⟩ := bnd_some h29
         refine w_an (fun e s => ∃ v7_39 : Bool, ∃ v2_40 : Clock, (v7_39, v2_40) = x37 ∧ Bx σ s i2 43 [(.v (.int .i64 v2_40.period)), (.v (.int .i64 v2_40.phase))] ∧ Bx σ s i4 43 [(.v (.int .i64 (0 : Int))), (.v (.int .i64 (0 : Int)))] ∧ e 2 = (.pt i2 0) ∧ e 4 = (.pt i4 0) ∧ e 7 = (.v (.bool v7_39)) ∧ i2 ≠ i4 ∧ Pre σ s) ?_ fun e s hI => ?_
         ·rcases ite_some h38 with ⟨hb41, h38⟩ | ⟨hb41, h38⟩
          ·refine xt (cj6 E2 E4 E7 E18 E64 hb41) ?_
           refine w_x (cj10 E2 E4 E7 E18 E64 X2.get X4.get (X2.same 43 (clock_Apply_A0 a0)).get (X4.ne N2__4 (some (AObj.box 43 (clock_Apply_A0 a0)))).get TT) (k := ?_)
           obtain rfl := some_inj h38
           have q31 := X2.same 43 (clock_Apply_A0 a0)
           have q32 := X4.ne N2__4 (some (AObj.box 43 (clock_Apply_A0 a0)))
           have q33 := cj10 E2 E4 E7 E18 E64 X2.get X4.get q31.get q32.get TT
           exact ct_n ⟨_, _, rfl, q31, q32, (xv q33), (xv q33), (xv q33), N2__4, (hP.set X2.le (some (AObj.box 43 (clock_Apply_A0 a0))))⟩
          ·refine xf (cj6 E2 E4 E7 E18 E64 hb41) ?_
           refine w_sa (fun e s => Bx σ s i2 43 (clock_Apply_A4 a0) ∧ Bx σ s i4 43 [(.v (.int .i64 (0 : Int))), (.v (.int .i64 (0 : Int)))] ∧ e 2 = (.pt i2 0) ∧ e 4 = (.pt i4 0) ∧ e 7 = (.v (.bool true)) ∧ e 72 = (.v (.bool (decide (a1.kind = (8 : Int))))) ∧ i2 ≠ i4 ∧ Pre σ s) ?_ fun e s hI => ?_
           ·refine w_x (cj8 E2 E4 E7 E18 E64 X2.get X4.get TT) (k := ?_)
            have q34 := cj8 E2 E4 E7 E18 E64 X2.get X4.get TT
            exact cw_n ⟨_, WkE.refl _, X2, X4, (xv q34), (xv q34), (xv q34), (xv q34), N2__4, hP⟩
           obtain ⟨X2, X4, E2, E4, E7, E72, N2__4, hP⟩ := hI
           obtain ⟨x42, h43, h38⟩ := bnd_some h38
           refine w_an (fun e s => ∃ v7_44 : Bool, ∃ v2_45 : Clock, (v7_44, v2_45) = x42 ∧ Bx σ s i2 43 [(.v (.int .i64 v2_45.period)), (.v (.int .i64 v2_45.phase))] ∧ Bx σ s i4 43 [(.v (.int .i64 (0 : Int))), (.v (.int .i64 (0 : Int)))] ∧ e 2 = (.pt i2 0) ∧ e 4 = (.pt i4 0) ∧ e 7 = (.v (.bool v7_44)) ∧ i2 ≠ i4 ∧ Pre σ s) ?_ fun e s hI => ?_
           ·rcases ite_some h43 with ⟨hb46, h43⟩ | ⟨hb46, h43⟩
            ·refine xt (cj5 E2 E4 E7 E72 hb46) ?_
             refine w_sa (fun e s => Bx σ s i2 43 (clock_Apply_A4 a0) ∧ Bx σ s i4 43 [(.v (.int .i64 (0 : Int))), (.v (.int .i64 (0 : Int)))] ∧ e 2 = (.pt i2 0) ∧ e 4 = (.pt i4 0) ∧ e 7 = (.v (.bool (decide (a0.period ≤ a0.phase)))) ∧ i2 ≠ i4 ∧ Pre σ s) ?_ fun e s hI => ?_
             ·refine w_x (cj7 E2 E4 E7 E72 X2.get X4.get TT) (k := ?_)
              have q35 := cj7 E2 E4 E7 E72 X2.get X4.get TT
              exact cw_n ⟨_, WkE.refl _, X2, X4, (xv q35), (xv q35), (xv q35), N2__4, hP⟩
             obtain ⟨X2, X4, E2, E4, E7, N2__4, hP⟩ := hI
             refine w_x (cj8 E2 E4 E7 X2.get X4.get (X2.same 43 (clock_Apply_A1 a0)).get (X4.ne N2__4 (some (AObj.box 43 (clock_Apply_A1 a0)))).get TT) (k := ?_)
             obtain rfl := some_inj h43
             have q36 := X2.same 43 (clock_Apply_A1 a0)
             have q37 := X4.ne N2__4 (some (AObj.box 43 (clock_Apply_A1 a0)))
             have q38 := cj8 E2 E4 E7 X2.get X4.get q36.get q37.get TT
             exact ct_n ⟨_, _, rfl, q36, q37, (xv q38), (xv q38), (xv q38), N2__4, (hP.set X2.le (some (AObj.box 43 (clock_Apply_A1 a0))))⟩
            ·refine xf (cj5 E2 E4 E7 E72 hb46) ?_
             refine w_skip ?_
             obtain rfl := some_inj h43
             have q39 := cj4 E2 E4 E7 E72
             exact ct_n ⟨_, _, rfl, X2, X4, (xv q39), (xv q39), (xv q39), N2__4, hP⟩
           obtain ⟨v7_44, v2_45, rfl, X2, X4, E2, E4, E7, N2__4, hP⟩ := hI
           try dsimp only at h38
           obtain rfl := some_inj h38
           exact ct_n ⟨_, _, rfl, X2, X4, (xv (cj3 E2 E4 E7)), (xv (cj3 E2 E4 E7)), (xv (cj3 E2 E4 E7)), N2__4, hP⟩
         obtain ⟨v7_39, v2_40, rfl, X2, X4, E2, E4, E7, N2__4, hP⟩ := hI
         try dsimp only at h29
         obtain rfl := some_inj h29
         exact ct_n ⟨_, _, rfl, X2, X4, (xv (cj3 E2 E4 E7)), (xv (cj3 E2 E4 E7)), (xv (cj3 E2 E4 E7)), N2__4, hP⟩
       obtain ⟨v7_30, v2_31, rfl, X2, X4, E2, E4, E7, N2__4, hP⟩ := hI
       try dsimp only at h24
       obtain rfl := some_inj h24
       exact ct_n ⟨_, _, rfl, X2, X4, (xv (cj3 E2 E4 E7)), (xv (cj3 E2 E4 E7)), (xv (cj3 E2 E4 E7)), N2__4, hP⟩
     obtain ⟨v7_25, v2_26, rfl, X2, X4, E2, E4, E7, N2__4, hP⟩ := hI
     try dsimp only at h15
     obtain rfl := some_inj h15
     exact ct_n ⟨_, _, rfl, X2, X4, (xv (cj3 E2 E4 E7)), (xv (cj3 E2 E4 E7)), (xv (cj3 E2 E4 E7)), N2__4, hP⟩
   obtain ⟨v7_16, v2_17, rfl, X2, X4, E2, E4, E7, N2__4, hP⟩ := hI
   try dsimp only at h11
   refine w_bk ?_
   obtain rfl := some_inj h11
   exact cw_n ⟨_, WkE.refl _, _, _, rfl, X2, X4, (xv (cj3 E2 E4 E7)), (xv (cj3 E2 E4 E7)), (xv (cj3 E2 E4 E7)), N2__4, hP⟩
  obtain ⟨v7_12, v2_13, rfl, X2, X4, E2, E4, E7, N2__4, hP⟩ := hI
  try dsimp only at h
  obtain ⟨x47, h48, h⟩ := bnd_some h
  refine w_sa (fun e s => ∃ v4_49 : Clock, .inr v4_49 = x47 ∧ Bx σ s i2 43 [(.v (.int .i64 v2_13.period)), (.v (.int .i64 v2_13.phase))] ∧ Bx σ s i4 43 [(.v (.int .i64 v4_49.period)), (.v (.int .i64 v4_49.phase))] ∧ e 2 = (.pt i2 0) ∧ e 4 = (.pt i4 0) ∧ i2 ≠ i4 ∧ Pre σ s) ?_ fun e s hI => ?_
  ·refine w_block ?_
   refine w_sa (fun e s => Bx σ s i2 43 [(.v (.int .i64 v2_13.period)), (.v (.int .i64 v2_13.phase))] ∧ Bx σ s i4 43 [(.v (.int .i64 (0 : Int))), (.v (.int .i64 (0 : Int)))] ∧ e 2 = (.pt i2 0) ∧ e 4 = (.pt i4 0) ∧ e 85 = (.v (.bool (!v7_12))) ∧ i2 ≠ i4 ∧ Pre σ s) ?_ fun e s hI => ?_
   ·refine w_x (cj6 E2 E4 E7 X2.get X4.get TT) (k := ?_)
    have q40 := cj6 E2 E4 E7 X2.get X4.get TT
    exact cw_n ⟨_, WkE.refl _, X2, X4, (xv q40), (xv q40), (xv q40), N2__4, hP⟩
   obtain ⟨X2, X4, E2, E4, E85, N2__4, hP⟩ := hI
   rcases ite_some h48 with ⟨hb50, h48⟩ | ⟨hb50, h48⟩
   ·refine xt (cj4 E2 E4 E85 hb50) ?_
    refine w_sa (fun e s => Bx σ s i4 43 [(.v (.int .i64 (0 : Int))), (.v (.int .i64 (0 : Int)))] ∧ e 4 = (.pt i4 0) ∧ e 5 = (.v (.int .i64 (5 : Int))) ∧ Pre σ s) ?_ fun e s hI => ?_
    ·refine w_x (cj8 E2 E4 E85 X2.get X4.get (X2.ne (Ne.symm N2__4) (some (AObj.box 43 [(.v (.int .i64 (0 : Int))), (.v (.int .i64 (0 : Int)))]))).get (X4.same 43 [(.v (.int .i64 (0 : Int))), (.v (.int .i64 (0 : Int)))]).get TT) (k := ?_)
     have q41 := X4.same 43 [(.v (.int .i64 (0 : Int))), (.v (.int .i64 (0 : Int)))]
     have q42 := X2.ne (Ne.symm N2__4) (some (AObj.box 43 [(.v (.int .i64 (0 : Int))), (.v (.int .i64 (0 : Int)))]))
     have q43 := cj8 E2 E4 E85 X2.get X4.get q42.get q41.get TT
     exact cw_n ⟨_, WkE.refl _, q41, (xv q43), (xv q43), (hP.set X4.le (some (AObj.box 43 [(.v (.int .i64 (0 : Int))), (.v (.int .i64 (0 : Int)))])))⟩
    obtain ⟨X4, E4, E5, hP⟩ := hI
    refine w_ret ?_
    refine w_bkr ?_
    obtain rfl := some_inj h48
    refine cw_r ?_
    try dsimp only at h
    obtain rfl := some_inj h
    exact w_fin (fun _ => rfl) (xr (rs := #[.cell 4 43, .tmp 5]) (cj4 X4.get E4 E5 TT)) hP (r' := (.tu [(.ag [(.v (.int .i64 (0 : Int))), (.v (.int .i64 (0 : Int)))]), (.v (.int .i64 (5 : Int)))])) (.refl _) (.tu (CnL.cons (.ag (CnL.cons (.v _) (CnL.cons (.v _) CnL.nil))) (CnL.cons (.v _) CnL.nil))) hK
   ·refine xf (cj4 E2 E4 E85 hb50) ?_
    obtain ⟨y51, h52, h48⟩ := bnd_some h48
    refine w_sa (fun e s => Bx σ s i2 43 [(.v (.int .i64 v2_13.period)), (.v (.int .i64 v2_13.phase))] ∧ Bx σ s i4 43 [(.v (.int .i64 (0 : Int))), (.v (.int .i64 (0 : Int)))] ∧ e 2 = (.pt i2 0) ∧ e 4 = (.pt i4 0) ∧ e 89 = (.v (.bool (!y51))) ∧ i2 ≠ i4 ∧ Pre σ s) ?_ fun e s hI => ?_
    ·refine w_x (cj6 E2 E4 E85 X2.get X4.get TT) (k := ?_)
     refine EC.wka (.cons (.refl _) .nil) (S_clock_Right _ _ h52 _ _  ?_)
     refine w_y (cj6 E2 E4 E85 X2.get X4.get TT) (k := ?_)
     have q44 := cj6 E2 E4 E85 X2.get X4.get TT
     exact cw_n ⟨_, WkE.refl _, X2, X4, (xv q44), (xv q44), (xv q44), N2__4, hP⟩
    obtain ⟨X2, X4, E2, E4, E89, N2__4, hP⟩ := hI
    rcases ite_some h48 with ⟨hb53, h48⟩ | ⟨hb53, h48⟩
    ·refine xt (cj4 E2 E4 E89 hb53) ?_
     refine w_sa (fun e s => Bx σ s i4 43 [(.v (.int .i64 (0 : Int))), (.v (.int .i64 (0 : Int)))] ∧ e 4 = (.pt i4 0) ∧ e 5 = (.v (.int .i64 (7 : Int))) ∧ Pre σ s) ?_ fun e s hI => ?_
     ·refine w_x (cj8 E2 E4 E89 X2.get X4.get (X2.ne (Ne.symm N2__4) (some (AObj.box 43 [(.v (.int .i64 (0 : Int))), (.v (.int .i64 (0 : Int)))]))).get (X4.same 43 [(.v (.int .i64 (0 : Int))), (.v (.int .i64 (0 : Int)))]).get TT) (k := ?_)
      have q45 := X4.same 43 [(.v (.int .i64 (0 : Int))), (.v (.int .i64 (0 : Int)))]
      have q46 := X2.ne (Ne.symm N2__4) (some (AObj.box 43 [(.v (.int .i64 (0 : Int))), (.v (.int .i64 (0 : Int)))]))
      have q47 := cj8 E2 E4 E89 X2.get X4.get q46.get q45.get TT
      exact cw_n ⟨_, WkE.refl _, q45, (xv q47), (xv q47), (hP.set X4.le (some (AObj.box 43 [(.v (.int .i64 (0 : Int))), (.v (.int .i64 (0 : Int)))])))⟩
     obtain ⟨X4, E4, E5, hP⟩ := hI
     refine w_ret ?_
     refine w_bkr ?_
     obtain rfl := some_inj h48
     refine cw_r ?_
     try dsimp only at h
     obtain rfl := some_inj h
     exact w_fin (fun _ => rfl) (xr (rs := #[.cell 4 43, .tmp 5]) (cj4 X4.get E4 E5 TT)) hP (r' := (.tu [(.ag [(.v (.int .i64 (0 : Int))), (.v (.int .i64 (0 : Int)))]), (.v (.int .i64 (7 : Int)))])) (.refl _) (.tu (CnL.cons (.ag (CnL.cons (.v _) (CnL.cons (.v _) CnL.nil))) (CnL.cons (.v _) CnL.nil))) hK
    ·refine xf (cj4 E2 E4 E89 hb53) ?_
     refine w_skip ?_
     refine w_bk ?_
     obtain rfl := some_inj h48
     exact cw_n ⟨_, WkE.refl _, _, rfl, X2, X4, (xv (cj3 E2 E4 E89)), (xv (cj3 E2 E4 E89)), N2__4, hP⟩
  obtain ⟨v4_49, rfl, X2, X4, E2, E4, N2__4, hP⟩ := hI
  try dsimp only at h
  refine w_sa (fun e s => Bx σ s i4 43 [(.v (.int .i64 v2_13.period)), (.v (.int .i64 v2_13.phase))] ∧ e 4 = (.pt i4 0) ∧ e 5 = (.v (.int .i64 (0 : Int))) ∧ Pre σ s) ?_ fun e s hI => ?_
  ·refine w_x (cj7 E2 E4 X2.get X4.get (X2.ne (Ne.symm N2__4) (some (AObj.box 43 [(.v (.int .i64 v2_13.period)), (.v (.int .i64 v2_13.phase))]))).get (X4.same 43 [(.v (.int .i64 v2_13.period)), (.v (.int .i64 v2_13.phase))]).get TT) (k := ?_)
   have q48 := X4.same 43 [(.v (.int .i64 v2_13.period)), (.v (.int .i64 v2_13.phase))]
   have q49 := X2.ne (Ne.symm N2__4) (some (AObj.box 43 [(.v (.int .i64 v2_13.period)), (.v (.int .i64 v2_13.phase))]))
   have q50 := cj7 E2 E4 X2.get X4.get q49.get q48.get TT
   exact cw_n ⟨_, WkE.refl _, q48, (xv q50), (xv q50), (hP.set X4.le (some (AObj.box 43 [(.v (.int .i64 v2_13.period)), (.v (.int .i64 v2_13.phase))])))⟩
  obtain ⟨X4, E4, E5, hP⟩ := hI
  refine w_ret ?_
  obtain rfl := some_inj h
  exact w_fin (fun _ => rfl) (xr (rs := #[.cell 4 43, .tmp 5]) (cj4 X4.get E4 E5 TT)) hP (r' := (.tu [(.ag [(.v (.int .i64 v2_13.period)), (.v (.int .i64 v2_13.phase))]), (.v (.int .i64 (0 : Int)))])) (.refl _) (.tu (CnL.cons (.ag (CnL.cons (.v _) (CnL.cons (.v _) CnL.nil))) (CnL.cons (.v _) CnL.nil))) hK
noncomputable def B_clock_factor (a0 : Op) : Option Int :=
 ((((if (decide (a0.kind = (5 : Int))) then
  some (.inr (.inr (.inr ())))
 else
  (if (decide (a0.kind = (3 : Int))) then
   some (decide (a0.kind = (3 : Int)))
  else
   some (decide (a0.kind = (4 : Int))) : Option Bool).bind fun v8_13 =>
  if v8_13 then
   some (.inr (.inl (1 : Int)))
  else
   (if (decide (a0.kind = (6 : Int))) then
    some (decide (a0.kind = (6 : Int)))
   else
    (if (decide (a0.kind = (7 : Int))) then
     some (decide (a0.kind = (7 : Int)))
    else
     some (decide (a0.kind = (8 : Int))) : Option Bool).bind fun v11_22 =>
    some v11_22 : Option Bool).bind fun v11_18 =>
   if v11_18 then
    some (.inr (.inr (.inl ())))
   else
    some (.inl ()) : Option (Unit ⊕ Int ⊕ Unit ⊕ Unit)).bind fun x => match x with
 | .inl r => some (.inl r)
 | .inr (.inl r) => some (.inr (.inr (.inr r)))
 | .inr (.inr (.inl r)) => some (.inr (.inl r))
 | .inr (.inr (.inr _)) =>
  if ((decide (a0.d < (1 : Int))) || (decide ((100 : Int) < a0.d))) then
   some (.inr (.inr (.inl (7 : Int))))
  else
   some (.inr (.inr (.inr (0 : Int)))) : Option (Unit ⊕ Unit ⊕ Int ⊕ Int)).bind fun x => match x with
 | .inl r => some (.inl r)
 | .inr (.inl r) => some (.inr (.inr r))
 | .inr (.inr (.inl r)) => some (.inr (.inl r))
 | .inr (.inr (.inr vleast_7)) =>
  if ((decide (a0.n < vleast_7)) || (decide ((100 : Int) < a0.n))) then
   some (.inr (.inl (7 : Int)))
  else
   some (.inr (.inr ())) : Option (Unit ⊕ Int ⊕ Unit)).bind fun x => match x with
 | .inl r => some (.inr r)
 | .inr (.inl r) => some (.inl r)
 | .inr (.inr _) =>
  some (.inl (0 : Int)) : Option (Int ⊕ Unit)).bind fun x => match x with
 | .inl r => some r
 | .inr _ =>
  some (12 : Int)
abbrev clock_factor_A0 (a0 : Op) : List PV := [(.v (.int .i64 a0.kind)), (.v (.int .i64 a0.n)), (.v (.int .i64 a0.d))]
theorem W_clock_factor : Sat_clock_factor (B_clock_factor) := by
 intro a0 r h σ K hK
 refine w_fp Try.func123 rfl rfl (by kernel_rfl) ?_
 unfold B_clock_factor at h
 have hP := Pre.refl σ
 have E0 : argE [(.ag (clock_factor_A0 a0))] 0 = (.ag (clock_factor_A0 a0)) := rfl
 have TT := cj4 Expr.rlen T_119 T_2 T_3
 refine w_sa (fun e s => ∃ i1 : Nat, Bx σ s i1 119 (clock_factor_A0 a0) ∧ e 1 = (.pt i1 0) ∧ Pre σ s) ?_ fun e s hI => ?_
 ·refine w_x (cj2 E0 TT) (k := ?_)
  exact cw_n ⟨_, WkE.refl _, σ.length, (Bx.new hP 119 (clock_factor_A0 a0)), (xv (cj2 E0 TT)), (hP.app _)⟩
 obtain ⟨i1, X1, E1, hP⟩ := hI
 refine w_sa (fun e s => Bx σ s i1 119 (clock_factor_A0 a0) ∧ e 1 = (.pt i1 0) ∧ e 3 = (.v (.int .i64 (1 : Int))) ∧ Pre σ s) ?_ fun e s hI => ?_
 ·refine w_x (cj3 E1 X1.get TT) (k := ?_)
  exact cw_n ⟨_, WkE.refl _, X1, (xv (cj3 E1 X1.get TT)), (xv (cj3 E1 X1.get TT)), hP⟩
 obtain ⟨X1, E1, E3, hP⟩ := hI
 refine w_assoc ?_
 refine w_sa (fun e s => Bx σ s i1 119 (clock_factor_A0 a0) ∧ e 1 = (.pt i1 0) ∧ e 3 = (.v (.int .i64 (1 : Int))) ∧ e 5 = (.v (.int .i64 a0.kind)) ∧ Pre σ s) ?_ fun e s hI => ?_
 ·refine w_x (cj4 E1 E3 X1.get TT) (k := ?_)
  have q1 := cj4 E1 E3 X1.get TT
  exact cw_n ⟨_, WkE.refl _, X1, (xv q1), (xv q1), (xv q1), hP⟩
 obtain ⟨X1, E1, E3, E5, hP⟩ := hI
 obtain ⟨x1, h2, h⟩ := bnd_some h
 refine w_sa (fun e s => .inr () = x1 ∧ Pre σ s) ?_ fun e s hI => ?_
 ·refine w_block ?_
  obtain ⟨x3, h4, h2⟩ := bnd_some h2
  refine w_sa (fun e s => .inr (.inr ()) = x3 ∧ Pre σ s) ?_ fun e s hI => ?_
  ·refine w_block ?_
   obtain ⟨x5, h6, h4⟩ := bnd_some h4
   refine w_sa (fun e s => ∃ vleast_7 : Int, .inr (.inr (.inr vleast_7)) = x5 ∧ Bx σ s i1 119 (clock_factor_A0 a0) ∧ e 1 = (.pt i1 0) ∧ e 3 = (.v (.int .i64 vleast_7)) ∧ Pre σ s) ?_ fun e s hI => ?_
   ·refine w_block ?_
    obtain ⟨x8, h9, h6⟩ := bnd_some h6
    refine w_sa (fun e s => .inr (.inr (.inr ())) = x8 ∧ Bx σ s i1 119 (clock_factor_A0 a0) ∧ e 1 = (.pt i1 0) ∧ Pre σ s) ?_ fun e s hI => ?_
    ·refine w_block ?_
     refine w_assoc ?_
     refine w_assoc ?_
     refine w_sa (fun e s => Bx σ s i1 119 (clock_factor_A0 a0) ∧ e 1 = (.pt i1 0) ∧ e 3 = (.v (.int .i64 (1 : Int))) ∧ e 5 = (.v (.int .i64 a0.kind)) ∧ e 6 = (.v (.bool (decide (a0.kind = (5 : Int))))) ∧ Pre σ s) ?_ fun e s hI => ?_
     ·refine w_x (cj5 E1 E3 E5 X1.get TT) (k := ?_)
      have q2 := cj5 E1 E3 E5 X1.get TT
      exact cw_n ⟨_, WkE.refl _, X1, (xv q2), (xv q2), (xv q2), (xv q2), hP⟩
     obtain ⟨X1, E1, E3, E5, E6, hP⟩ := hI
     refine w_seq ?_
     rcases ite_some h9 with ⟨hb10, h9⟩ | ⟨hb10, h9⟩
     ·refine xt (cj5 E1 E3 E5 E6 hb10) ?_
      refine w_exit ?_
      refine w_sqx ?_
      refine w_bkx ?_
      obtain rfl := some_inj h9
      exact cw_n ⟨_, WkE.refl _, rfl, X1, (xv (cj4 E1 E3 E5 E6)), hP⟩
     ·refine xf (cj5 E1 E3 E5 E6 hb10) ?_
      refine w_skip ?_
      refine w_sq ?_
      refine w_assoc ?_
      refine w_assoc ?_
      refine w_assoc ?_
      refine w_sa (fun e s => Bx σ s i1 119 (clock_factor_A0 a0) ∧ e 1 = (.pt i1 0) ∧ e 3 = (.v (.int .i64 (1 : Int))) ∧ e 5 = (.v (.int .i64 a0.kind)) ∧ e 8 = (.v (.bool (decide (a0.kind = (3 : Int))))) ∧ Pre σ s) ?_ fun e s hI => ?_
      ·refine w_x (cj6 E1 E3 E5 E6 X1.get TT) (k := ?_)
       have q3 := cj6 E1 E3 E5 E6 X1.get TT
       exact cw_n ⟨_, WkE.refl _, X1, (xv q3), (xv q3), (xv q3), (xv q3), hP⟩
      obtain ⟨X1, E1, E3, E5, E8, hP⟩ := hI
      obtain ⟨x11, h12, h9⟩ := bnd_some h9
      refine w_sa (fun e s => ∃ v8_13 : Bool, v8_13 = x11 ∧ Bx σ s i1 119 (clock_factor_A0 a0) ∧ e 1 = (.pt i1 0) ∧ e 3 = (.v (.int .i64 (1 : Int))) ∧ e 5 = (.v (.int .i64 a0.kind)) ∧ e 8 = (.v (.bool v8_13)) ∧ Pre σ s) ?_ fun e s hI => ?_
      ·rcases ite_some h12 with ⟨hb14, h12⟩ | ⟨hb14, h12⟩
       ·refine xt (cj5 E1 E3 E5 E8 hb14) ?_
        refine w_skip ?_
        obtain rfl := some_inj h12
        have q4 := cj4 E1 E3 E5 E8
        exact cw_n ⟨_, WkE.refl _, _, rfl, X1, (xv q4), (xv q4), (xv q4), (xv q4), hP⟩
       ·refine xf (cj5 E1 E3 E5 E8 hb14) ?_
        refine w_x (cj6 E1 E3 E5 E8 X1.get TT) (k := ?_)
        obtain rfl := some_inj h12
        have q5 := cj6 E1 E3 E5 E8 X1.get TT
        exact cw_n ⟨_, WkE.refl _, _, rfl, X1, (xv q5), (xv q5), (xv q5), (xv q5), hP⟩
      obtain ⟨v8_13, rfl, X1, E1, E3, E5, E8, hP⟩ := hI
      try dsimp only at h9
      refine w_seq ?_
      rcases ite_some h9 with ⟨hb15, h9⟩ | ⟨hb15, h9⟩
      ·refine xt (cj5 E1 E3 E5 E8 hb15) ?_
       refine w_exit ?_
       refine w_sqx ?_
       refine w_bky (by decide) ?_
       obtain rfl := some_inj h9
       refine cw_x ?_
       try dsimp only at h6
       refine w_bkx ?_
       obtain rfl := some_inj h6
       exact cw_n ⟨_, WkE.refl _, _, rfl, X1, (xv (cj4 E1 E3 E5 E8)), (xv (cj4 E1 E3 E5 E8)), hP⟩
      ·refine xf (cj5 E1 E3 E5 E8 hb15) ?_
       refine w_skip ?_
       refine w_sq ?_
       refine w_assoc ?_
       refine w_assoc ?_
       refine w_sa (fun e s => e 5 = (.v (.int .i64 a0.kind)) ∧ e 11 = (.v (.bool (decide (a0.kind = (6 : Int))))) ∧ Pre σ s) ?_ fun e s hI => ?_
       ·refine w_x (cj6 E1 E3 E5 E8 X1.get TT) (k := ?_)
        exact cw_n ⟨_, WkE.refl _, (xv (cj6 E1 E3 E5 E8 X1.get TT)), (xv (cj6 E1 E3 E5 E8 X1.get TT)), hP⟩
       obtain ⟨E5, E11, hP⟩ := hI
       obtain ⟨x16, h17, h9⟩ := bnd_some h9
       refine w_sa (fun e s => ∃ v11_18 : Bool, v11_18 = x16 ∧ e 11 = (.v (.bool v11_18)) ∧ Pre σ s) ?_ fun e s hI => ?_
       ·rcases ite_some h17 with ⟨hb19, h17⟩ | ⟨hb19, h17⟩
        ·refine xt (cj3 E5 E11 hb19) ?_
         refine w_skip ?_
         obtain rfl := some_inj h17
         exact cw_n ⟨_, WkE.refl _, _, rfl, (xv (cj2 E5 E11)), hP⟩
        ·refine xf (cj3 E5 E11 hb19) ?_
         refine w_sa (fun e s => e 5 = (.v (.int .i64 a0.kind)) ∧ e 11 = (.v (.bool (decide (a0.kind = (7 : Int))))) ∧ Pre σ s) ?_ fun e s hI => ?_
         ·refine w_x (cj3 E5 E11 TT) (k := ?_)
          exact cw_n ⟨_, WkE.refl _, (xv (cj3 E5 E11 TT)), (xv (cj3 E5 E11 TT)), hP⟩
         obtain ⟨E5, E11, hP⟩ := hI
         obtain ⟨x20, h21, h17⟩ := bnd_some h17
         refine w_an (fun e s => ∃ v11_22 : Bool, v11_22 = x20 ∧ e 11 = (.v (.bool v11_22)) ∧ Pre σ s) ?_ fun e s hI => ?_
         ·rcases ite_some h21 with ⟨hb23, h21⟩ | ⟨hb23, h21⟩
          ·refine xt (cj3 E5 E11 hb23) ?_
           refine w_skip ?_
           obtain rfl := some_inj h21
           exact ct_n ⟨_, rfl, (xv (cj2 E5 E11)), hP⟩
          ·refine xf (cj3 E5 E11 hb23) ?_
           refine w_x (cj3 E5 E11 TT) (k := ?_)
           obtain rfl := some_inj h21
           exact ct_n ⟨_, rfl, (xv (cj3 E5 E11 TT)), hP⟩
         obtain ⟨v11_22, rfl, E11, hP⟩ := hI
         try dsimp only at h17
         obtain rfl := some_inj h17
         exact cw_n ⟨_, WkE.refl _, _, rfl, (xv E11), hP⟩
       obtain ⟨v11_18, rfl, E11, hP⟩ := hI
       try dsimp only at h9
       refine w_seq ?_
       rcases ite_some h9 with ⟨hb24, h9⟩ | ⟨hb24, h9⟩
       ·refine xt (cj2 E11 hb24) ?_
        refine w_exit ?_
        refine w_sqx ?_
        refine w_bky (by decide) ?_
        obtain rfl := some_inj h9
        refine cw_x ?_
        try dsimp only at h6
        refine w_bky (by decide) ?_
        obtain rfl := some_inj h6
        refine cw_x ?_
        try dsimp only at h4
        refine w_bkx ?_
        obtain rfl := some_inj h4
        exact cw_n ⟨_, WkE.refl _, rfl, hP⟩
       ·refine xf (cj2 E11 hb24) ?_
        refine w_skip ?_
        refine w_sq ?_
        refine w_exit ?_
        refine w_bky (by decide) ?_
        obtain rfl := some_inj h9
        refine cw_x ?_
        try dsimp only at h6
        refine w_bky (by decide) ?_
        obtain rfl := some_inj h6
        refine cw_x ?_
        try dsimp only at h4
        refine w_bky (by decide) ?_
        obtain rfl := some_inj h4
        refine cw_x ?_
        try dsimp only at h2
        refine w_bkx ?_
        obtain rfl := some_inj h2
        exact cw_n ⟨_, WkE.refl _, rfl, hP⟩
    obtain ⟨rfl, X1, E1, hP⟩ := hI
    try dsimp only at h6
    refine w_assoc ?_
    refine w_sa (fun e s => Bx σ s i1 119 (clock_factor_A0 a0) ∧ e 1 = (.pt i1 0) ∧ e 22 = (.v (.bool ((decide (a0.d < (1 : Int))) || (decide ((100 : Int) < a0.d))))) ∧ Pre σ s) ?_ fun e s hI => ?_
    ·cases hb25 : (decide (a0.d < (1 : Int)))
     ·refine w_x (cj4 E1 X1.get hb25 TT) (k := ?_)
      exact cw_n ⟨_, WkE.refl _, X1, (xv (cj4 E1 X1.get hb25 TT)), (xv (cj4 E1 X1.get hb25 TT)), hP⟩
     ·refine w_x (cj4 E1 X1.get hb25 TT) (k := ?_)
      exact cw_n ⟨_, WkE.refl _, X1, (xv (cj4 E1 X1.get hb25 TT)), (xv (cj4 E1 X1.get hb25 TT)), hP⟩
    obtain ⟨X1, E1, E22, hP⟩ := hI
    refine w_seq ?_
    rcases ite_some h6 with ⟨hb26, h6⟩ | ⟨hb26, h6⟩
    ·refine xt (cj3 E1 E22 hb26) ?_
     refine w_sa (fun e s => e 2 = (.v (.int .i64 (7 : Int))) ∧ Pre σ s) ?_ fun e s hI => ?_
     ·refine w_x (cj4 E1 E22 X1.get TT) (k := ?_)
      exact cw_n ⟨_, WkE.refl _, (xv (cj4 E1 E22 X1.get TT)), hP⟩
     obtain ⟨E2, hP⟩ := hI
     refine w_ret ?_
     refine w_sqr ?_
     refine w_bkr ?_
     obtain rfl := some_inj h6
     refine cw_r ?_
     try dsimp only at h4
     refine w_bkr ?_
     obtain rfl := some_inj h4
     refine cw_r ?_
     try dsimp only at h2
     refine w_bkr ?_
     obtain rfl := some_inj h2
     refine cw_r ?_
     try dsimp only at h
     obtain rfl := some_inj h
     exact w_fin (fun _ => rfl) (xr (rs := #[.tmp 2]) E2) hP (r' := (.v (.int .i64 (7 : Int)))) (.refl _) (.v _) hK
    ·refine xf (cj3 E1 E22 hb26) ?_
     refine w_skip ?_
     refine w_sq ?_
     refine w_x (cj4 E1 E22 X1.get TT) (k := ?_)
     refine w_bk ?_
     obtain rfl := some_inj h6
     exact cw_n ⟨_, WkE.refl _, _, rfl, X1, (xv (cj4 E1 E22 X1.get TT)), (xv (cj4 E1 E22 X1.get TT)), hP⟩
   obtain ⟨vleast_7, rfl, X1, E1, E3, hP⟩ := hI
   try dsimp only at h4
   refine w_sa (fun e s => e 31 = (.v (.bool ((decide (a0.n < vleast_7)) || (decide ((100 : Int) < a0.n))))) ∧ Pre σ s) ?_ fun e s hI => ?_
   ·cases hb27 : (decide (a0.n < vleast_7))
    ·refine w_x (cj5 E1 E3 X1.get hb27 TT) (k := ?_)
     exact cw_n ⟨_, WkE.refl _, (xv (cj5 E1 E3 X1.get hb27 TT)), hP⟩
    ·refine w_x (cj5 E1 E3 X1.get hb27 TT) (k := ?_)
     exact cw_n ⟨_, WkE.refl _, (xv (cj5 E1 E3 X1.get hb27 TT)), hP⟩
   obtain ⟨E31, hP⟩ := hI
   rcases ite_some h4 with ⟨hb28, h4⟩ | ⟨hb28, h4⟩
   ·refine xt (cj2 E31 hb28) ?_
    refine w_sa (fun e s => e 2 = (.v (.int .i64 (7 : Int))) ∧ Pre σ s) ?_ fun e s hI => ?_
    ·refine w_x (cj2 E31 TT) (k := ?_)
     exact cw_n ⟨_, WkE.refl _, (xv (cj2 E31 TT)), hP⟩
    obtain ⟨E2, hP⟩ := hI
    refine w_ret ?_
    refine w_bkr ?_
    obtain rfl := some_inj h4
    refine cw_r ?_
    try dsimp only at h2
    refine w_bkr ?_
    obtain rfl := some_inj h2
    refine cw_r ?_
    try dsimp only at h
    obtain rfl := some_inj h
    exact w_fin (fun _ => rfl) (xr (rs := #[.tmp 2]) E2) hP (r' := (.v (.int .i64 (7 : Int)))) (.refl _) (.v _) hK
   ·refine xf (cj2 E31 hb28) ?_
    refine w_skip ?_
    refine w_bk ?_
    obtain rfl := some_inj h4
    exact cw_n ⟨_, WkE.refl _, rfl, hP⟩
  obtain ⟨rfl, hP⟩ := hI
  try dsimp only at h2
  refine w_seq ?_
  refine w_sa (fun e s => e 2 = (.v (.int .i64 (0 : Int))) ∧ Pre σ s) ?_ fun e s hI => ?_
  ·refine w_x Expr.rlen (k := ?_)
   exact cw_n ⟨_, WkE.refl _, (xv Expr.rlen), hP⟩
  obtain ⟨E2, hP⟩ := hI
  refine w_ret ?_
  refine w_sqr ?_
  refine w_bkr ?_
  obtain rfl := some_inj h2
  refine cw_r ?_
  try dsimp only at h
  obtain rfl := some_inj h
  exact w_fin (fun _ => rfl) (xr (rs := #[.tmp 2]) E2) hP (r' := (.v (.int .i64 (0 : Int)))) (.refl _) (.v _) hK
 obtain ⟨rfl, hP⟩ := hI
 try dsimp only at h
 refine w_sa (fun e s => e 2 = (.v (.int .i64 (12 : Int))) ∧ Pre σ s) ?_ fun e s hI => ?_
 ·refine w_x Expr.rlen (k := ?_)
  exact cw_n ⟨_, WkE.refl _, (xv Expr.rlen), hP⟩
 obtain ⟨E2, hP⟩ := hI
 refine w_ret ?_
 obtain rfl := some_inj h
 exact w_fin (fun _ => rfl) (xr (rs := #[.tmp 2]) E2) hP (r' := (.v (.int .i64 (12 : Int)))) (.refl _) (.v _) hK
end Go.Proofs.Ytohmmfimedgccaa.E
end
section
namespace Go.Proofs.Ytohmmfimedgccaa.E
set_option linter.unusedVariables false
set_option linter.unusedSimpArgs false
set_option maxRecDepth 10000
abbrev So := check_solver
noncomputable def m_fs := B_check_finder_fail_in_check_solver
theorem s_fs : Sat_check_finder_fail_in_check_solver m_fs := W_check_finder_fail_in_check_solver
theorem v_fs (s : So) (a e : Int) : m_fs s a e = some ((), ⟨failS s.finder a e, s.known⟩) := by
 unfold m_fs B_check_finder_fail_in_check_solver failS
 by_cases h : s.finder.e = 0 <;> simp [h]
noncomputable def m_cright := B_clock_Right
theorem s_cright : Sat_clock_Right m_cright := W_clock_Right
noncomputable def m_factor := B_clock_factor
theorem s_factor : Sat_clock_factor m_factor := W_clock_factor
noncomputable def m_apply := B_clock_Apply m_cright m_factor
theorem s_apply : Sat_clock_Apply m_apply := W_clock_Apply _ _ s_cright s_factor
theorem t_factor (o : Op) : ∃ r, m_factor o = some r ∧ (r = 0 ∨ r = 7 ∨ r = 12) ∧ (r = 0 → (o.kind = 3 → 1 ≤ o.n) ∧ (o.kind = 5 → 1 ≤ o.d)) := by
 unfold m_factor B_clock_factor
 by_cases h5 : o.kind = 5
 ·by_cases hd : o.d < 1 ∨ 100 < o.d
  ·refine ⟨7, ?_, by simp, fun h => by omega⟩
   simp [h5, hd]
  ·by_cases hn : o.n < 0 ∨ 100 < o.n
   ·refine ⟨7, ?_, by simp, fun h => by omega⟩
    simp [h5, hd, hn]
   ·refine ⟨0, ?_, by simp, fun h => ⟨by omega, by omega⟩⟩
    simp [h5, hd, hn]
 ·by_cases h3 : o.kind = 3 ∨ o.kind = 4
  ·by_cases hn : o.n < 1 ∨ 100 < o.n
   ·refine ⟨7, ?_, by simp, fun h => by omega⟩
    rcases h3 with h | h <;> simp [h, hn]
   ·refine ⟨0, ?_, by simp, fun h => ⟨by omega, by omega⟩⟩
    rcases h3 with h | h <;> simp [h, hn]
  ·by_cases h6 : o.kind = 6 ∨ o.kind = 7 ∨ o.kind = 8
   ·refine ⟨0, ?_, by simp, fun h => ⟨by omega, by omega⟩⟩
    rcases h6 with h | h | h <;> simp [h]
   ·refine ⟨12, ?_, by simp, fun h => by omega⟩
    have : o.kind ≠ 3 := by omega
    have : o.kind ≠ 4 := by omega
    have : o.kind ≠ 6 := by omega
    have : o.kind ≠ 7 := by omega
    have : o.kind ≠ 8 := by omega
    simp [*]
theorem t_apply (c : Clock) (o : Op) : ∃ c' e, m_apply c o = some (c', e) ∧ (e = 0 ∨ e = 5 ∨ e = 7 ∨ e = 12) := by
 obtain ⟨r, h1, h2, h3⟩ := t_factor o
 have hr : ∀ c, ∃ b, m_cright c = some b := fun c => ⟨_, rfl⟩
 obtain ⟨b, hb⟩ := hr c
 unfold m_apply B_clock_Apply
 simp only [h1, hb, Option.bind_some]
 by_cases h0 : (if (!b) = true then (12 : Int) else r) = 0
 ·cases b with
  | false => simp at h0
  | true =>
   simp only [Bool.not_true, Bool.false_eq_true, if_false, Option.bind_some] at h0 ⊢
   simp only [h0, decide_true, Bool.not_true, Bool.false_eq_true, if_false]
   have fin : ∀ (x : Bool) (d : Clock), ∃ c' e, ((if (!x) = true then some (.inl (⟨0, 0⟩, 5)) else (m_cright d).bind fun y51 => if (!y51) = true then some (.inl (⟨0, 0⟩, 7)) else some (.inr ⟨0, 0⟩) : Option ((Clock × Int) ⊕ Clock)).bind fun x => match x with
     | .inl r => some r
     | .inr v4_49 => some (d, (0 : Int))) = some (c', e) ∧ (e = 0 ∨ e = 5 ∨ e = 7 ∨ e = 12) := fun x d => by
    obtain ⟨b, hb⟩ := hr d
    rw [hb]
    cases x <;> cases b
    ·exact ⟨_, _, rfl, by simp⟩
    ·exact ⟨_, _, rfl, by simp⟩
    ·exact ⟨_, _, rfl, by simp⟩
    ·exact ⟨_, _, rfl, by simp⟩
   by_cases k3 : o.kind = 3
   ·have := (h3 h0).1 k3
    simp only [k3, decide_true, if_true, remO, quoO, if_neg (show ¬ o.n = 0 by omega), Option.bind_some]
    exact fin _ _
   ·by_cases k4 : o.kind = 4
    ·simp only [k4, decide_true, if_true, Option.bind_some, Int.reduceEq, decide_false, Bool.false_eq_true, if_false]
     exact fin _ _
    ·by_cases k5 : o.kind = 5
     ·have := (h3 h0).2 k5
      simp only [k5, decide_true, if_true, remO, quoO, if_neg (show ¬ o.d = 0 by omega), Option.bind_some, Int.reduceEq, decide_false, Bool.false_eq_true, if_false]
      exact fin _ _
     ·by_cases k7 : o.kind = 7
      ·simp only [k7, decide_true, if_true, Option.bind_some, Int.reduceEq, decide_false, Bool.false_eq_true, if_false]
       exact fin _ _
      ·by_cases k8 : o.kind = 8
       ·simp only [k8, decide_true, if_true, Option.bind_some, Int.reduceEq, decide_false, Bool.false_eq_true, if_false]
        exact fin _ _
       ·simp only [decide_eq_false k3, decide_eq_false k4, decide_eq_false k5, decide_eq_false k7, decide_eq_false k8, Option.bind_some, Bool.false_eq_true, if_false]
        exact fin _ _
 ·cases b with
  | false => exact ⟨_, 12, rfl, by simp⟩
  | true =>
   simp only [Bool.not_true, Bool.false_eq_true, if_false, Option.bind_some] at h0 ⊢
   simp only [decide_eq_false h0, Bool.not_false, if_true]
   exact ⟨_, _, rfl, by omega⟩
def bad (e : Int) : Prop := e = 5 ∨ e = 6 ∨ e = 7 ∨ e = 12
def St (f f' : Fi) : Prop := f' = f ∨ (f.e = 0 ∧ bad f'.e)
theorem bad.ne {e : Int} (h : bad e) : e ≠ 0 := by unfold bad at h; omega
theorem St.refl (f : Fi) : St f f := .inl rfl
theorem St.trans {f g h : Fi} (a : St f g) (b : St g h) : St f h := by
 rcases a with rfl | ⟨h1, h2⟩
 ·exact b
 ·rcases b with rfl | ⟨h3, _⟩
  ·exact .inr ⟨h1, h2⟩
  ·exact absurd h3 h2.ne
theorem St.fail {f : Fi} {a e : Int} (h : bad e) : St f (failS f a e) := by
 unfold failS
 by_cases h0 : f.e = 0
 ·rw [if_pos h0]; exact .inr ⟨h0, h⟩
 ·rw [if_neg h0]; exact .inl rfl
theorem failS_ne {f : Fi} {a e : Int} (h : bad e) : (failS f a e).e ≠ 0 := by
 unfold failS
 by_cases h0 : f.e = 0
 ·rw [if_pos h0]; exact h.ne
 ·rw [if_neg h0]; exact h0
theorem St.zero {f g : Fi} (a : St f g) (h : g.e = 0) : g = f := by
 rcases a with h1 | ⟨_, h2⟩
 ·exact h1
 ·exact absurd h h2.ne
def gdC (m : Mp Clock) (k : ByteArray) : Clock := (m.get k).getD ⟨0, 0⟩
def Kn (m : Mp Clock) (e : Expr) : Prop := ∀ y ∈ subsE e, y.kind = 1 → (m.get y.name).isSome = true
theorem subsL_mem {x y : Expr} : ∀ {l : List Expr}, x ∈ l → y ∈ subsE x → y ∈ subsL l
 | a :: l, hx, hy => by
  rw [subsL, List.mem_append]
  rcases List.mem_cons.1 hx with rfl | hx
  ·exact .inl hy
  ·exact .inr (subsL_mem hx hy)
theorem Kn.arg {m : Mp Clock} {e x : Expr} (h : Kn m e) (hx : x ∈ e.args) : Kn m x := fun y hy => h y (by
 rw [subsE_eq]
 exact .tail _ (subsL_mem hx hy))
theorem Kn.self {m : Mp Clock} {e : Expr} (h : Kn m e) (k : e.kind = 1) : (m.get e.name).isSome = true := h e (by rw [subsE_eq]; exact .head _) k
inductive OfC (ρ : ByteArray → Clock) : Expr → Clock → Prop
 | nm {e : Expr} : e.kind = 1 → OfC ρ e (ρ e.name)
 | call {e a : Expr} {c : Clock} : e.kind = 2 → e.args[0]? = some a → OfC ρ a c → OfC ρ e c
 | op {e a : Expr} {c c' : Clock} : e.kind ≠ 1 → e.kind ≠ 2 → e.args[0]? = some a → OfC ρ a c → m_apply c ⟨e.kind, e.n, e.d⟩ = some (c', 0) → OfC ρ e c'
theorem OfC.det {ρ : ByteArray → Clock} {e : Expr} {c d : Clock} (h : OfC ρ e c) : OfC ρ e d → c = d := by
 induction h generalizing d with
 | nm k => intro h; cases h with
  | nm => rfl
  | call k2 => omega
  | op k2 => omega
 | call k ha _ ih => intro h; cases h with
  | nm k2 => omega
  | call k2 hb h => rw [ha] at hb; cases hb; exact ih h
  | op _ k2 => omega
 | op k k2 ha _ hap ih => intro h; cases h with
  | nm k3 => omega
  | call k3 => omega
  | op _ _ hb h hap' => rw [ha] at hb; cases hb; cases ih h; rw [hap] at hap'; cases hap'; rfl
structure PostOf (s : So) (e : Expr) (r : (Clock × Bool) × So) : Prop where
 known : r.2.known = s.known
 st : St s.finder r.2.finder
 leaf : e.kind = 1 → r = ((gdC s.known e.name, (s.known.get e.name).isSome), s)
 sound : r.2.finder.e = 0 → Kn s.known e → r.1.2 = true ∧ OfC (gdC s.known) e r.1.1
 full : s.finder.e = 0 → Kn s.known e → ∀ c, OfC (gdC s.known) e c → r = ((c, true), s)
def pOf (x : So × Expr) (r : (Clock × Bool) × So) : Prop := Sp_check_solver_of x.1 x.2 r ∧ PostOf x.1 x.2 r
noncomputable def m_of (s : So) (e : Expr) : Option ((Clock × Bool) × So) := pick pOf (s, e)
theorem s_of : Sat_check_solver_of m_of := fun _ _ _ h => (pick_spec h).1
theorem t_of (e : Expr) : e.fit → ∀ s : So, ∃ r, m_of s e = some r ∧ PostOf s e r := by
 induction e using Expr.induct with
 | h e ih =>
  intro hf s
  have hbig : (40 : Nat) ≤ maxLen := by unfold maxLen; decide
  suffices hB : ∃ r, B_check_solver_of m_of m_apply m_fs s e = some r ∧ PostOf s e r by
   obtain ⟨r, hr, hi⟩ := hB
   obtain ⟨r', h1, h2, h3⟩ := pick_ex (P := pOf) (a := (s, e)) ⟨r, W_check_solver_of _ _ _ s_of s_apply s_fs _ _ _ hr, hi⟩
   exact ⟨r', h1, h3⟩
  unfold B_check_solver_of
  rcases hf.kinds with ⟨k, ha⟩ | ⟨k, hl1, hl2⟩ | ⟨hl, hk⟩
  ·refine ⟨((gdC s.known e.name, (s.known.get e.name).isSome), s), ?_, rfl, St.refl _, fun _ => rfl, fun _ hk => ⟨hk.self k, .nm k⟩, fun h0 hk c hc => ?_⟩
   ·simp only [k, decide_true, if_true, Option.bind_some]
    rfl
   ·rw [(OfC.nm k).det hc, hk.self k]
  ·obtain ⟨r, h1, h2⟩ := iter_idx (f := check_solver_of_L0 e m_of) (fun i v => v.1 = (i : Int) ∧ v.2.1.known = s.known ∧ v.2.2.1 = s.known ∧ St s.finder v.2.1.finder ∧ (v.2.1.finder.e = 0 → Kn s.known e → i = 0) ∧ (s.finder.e = 0 → Kn s.known e → (∃ c, OfC (gdC s.known) e c) → i = 0 ∧ v.2.1.finder = s.finder)) e.args.length
    (fun r : ((Clock × Bool) × So) ⊕ (So × Mp Clock × Clock) => (∃ q, r = .inl q ∧ PostOf s e q) ∨ (∃ a b c, r = .inr (a, b, c) ∧ PostOf s e ((⟨0, 0⟩, false), ⟨a.finder, b⟩))) (fun i v hi hv => by
     obtain ⟨_, v0, v1, v2⟩ := v
     obtain ⟨rfl, hk1, rfl, hst, hz, hz2⟩ := hv
     simp only at hk1 hst hz hz2
     unfold check_solver_of_L0
     have hmem := List.getElem_mem hi
     obtain ⟨⟨⟨c, b⟩, s'⟩, h3, h4⟩ := ih _ hmem (hf.arg _ hmem) ⟨v0.finder, s.known⟩
     obtain ⟨p1, p2, p3, p4, p5⟩ := h4
     simp only at p1 p2 p4 p5
     have hfst : i = 0 → e.args[0]? = some e.args[i] := fun h => by subst h; simp [hi]
     simp only [dlt hi, if_true, getI_at hi, Option.bind_some, h3]
     cases b with
     | true =>
      refine .inr ⟨_, rfl, .inl ⟨_, rfl, p1, hst.trans p2, fun h => by omega, fun h0 hk => ?_, fun h0 hk d hd => ?_⟩⟩
      ·simp only at h0
       have hv0 : v0.finder.e = 0 := by rw [← p2.zero h0]; exact h0
       have hi0 := hz hv0 hk
       exact ⟨rfl, .call k (hfst hi0) (p4 h0 (hk.arg hmem)).2⟩
      ·obtain ⟨hi0, hf0⟩ := hz2 h0 hk ⟨d, hd⟩
       cases hd with
       | nm => omega
       | op _ k2 => omega
       | call _ hb hd =>
        rw [hfst hi0] at hb
        cases hb
        have := p5 (by rw [hf0]; exact h0) (hk.arg hmem) _ hd
        simp only [Prod.mk.injEq] at this
        obtain ⟨⟨rfl, -⟩, rfl⟩ := this
        simp [hf0]
     | false =>
      refine .inl ⟨_, rfl, winc hi (by omega), p1, p1, hst.trans p2, fun h0 hk => ?_, fun h0 hk hd => ?_⟩
      ·simp only at h0
       have := (p4 h0 (hk.arg hmem)).1
       cases this
      ·obtain ⟨hi0, hf0⟩ := hz2 h0 hk hd
       obtain ⟨d, hd⟩ := hd
       cases hd with
       | nm => omega
       | op _ k2 => omega
       | call _ hb hd =>
        rw [hfst hi0] at hb
        cases hb
        have := p5 (by rw [hf0]; exact h0) (hk.arg hmem) _ hd
        simp at this) (fun v hv => by
     obtain ⟨_, v0, v1, v2⟩ := v
     obtain ⟨rfl, hk1, rfl, hst, hz, hz2⟩ := hv
     simp only at hk1 hst hz hz2
     unfold check_solver_of_L0
     simp only [dge, Bool.false_eq_true, if_false]
     refine ⟨_, rfl, .inr ⟨_, _, _, rfl, rfl, hst, fun h => by omega, fun h0 hk => ?_, fun h0 hk d hd => ?_⟩⟩
     ·have := hz h0 hk; omega
     ·have := (hz2 h0 hk ⟨d, hd⟩).1; omega) (v0 := ((0 : Int), s, s.known, (⟨0, 0⟩ : Clock))) ⟨rfl, rfl, rfl, St.refl _, fun _ _ => rfl, fun _ _ _ => ⟨rfl, rfl⟩⟩
   simp only [k, decide_true, if_true, Option.bind_some, Int.reduceEq, decide_false, Bool.false_eq_true, if_false]
   have h1' : iterO (check_solver_of_L0 e m_of) ((0 : Int), ({ finder := s.finder, known := s.known } : So), s.known, (⟨0, 0⟩ : Clock)) = some r := h1
   rw [h1']
   rcases h2 with ⟨q, rfl, hq⟩ | ⟨a, b, c, rfl, hq⟩
   ·exact ⟨q, rfl, hq⟩
   ·exact ⟨_, rfl, hq⟩
  ·have k1 : e.kind ≠ 1 := by omega
   have k2 : e.kind ≠ 2 := by omega
   have h0' : 0 < e.args.length := by omega
   have hmem := List.getElem_mem h0'
   have hfst : e.args[0]? = some e.args[0] := by simp [h0']
   have hget : getI e.args (0 : Int) = some e.args[0] := getI_at (i := 0) h0'
   obtain ⟨⟨⟨c, b⟩, s'⟩, h3, h4⟩ := ih _ hmem (hf.arg _ hmem) ⟨s.finder, s.known⟩
   obtain ⟨p1, p2, p3, p4, p5⟩ := h4
   simp only at p1 p2 p4 p5
   simp only [decide_eq_false k1, decide_eq_false k2, Bool.false_eq_true, if_false, Option.bind_some, hget, h3]
   by_cases hg : b = true ∧ s'.finder.e = 0
   ·obtain ⟨rfl, hg⟩ := hg
    obtain ⟨c', er, h5, h6⟩ := t_apply c ⟨e.kind, e.n, e.d⟩
    simp only [hg, decide_true, Bool.not_true, Bool.or_self, Bool.false_eq_true, if_false, h5, Option.bind_some]
    by_cases he : er = 0
    ·subst he
     simp only [decide_true, Bool.not_true, Bool.false_eq_true, if_false]
     refine ⟨_, rfl, p1, p2, fun h => by omega, fun h0 hk => ⟨rfl, .op k1 k2 hfst (p4 h0 (hk.arg hmem)).2 h5⟩, fun h0 hk d hd => ?_⟩
     cases hd with
     | nm => omega
     | call => omega
     | op _ _ hb hd hap =>
      rw [hfst] at hb
      cases hb
      have := p5 h0 (hk.arg hmem) _ hd
      simp only [Prod.mk.injEq] at this
      obtain ⟨⟨rfl, -⟩, rfl⟩ := this
      rw [h5] at hap
      cases hap
      rfl
    ·simp only [decide_eq_false he, Bool.not_false, if_true, v_fs, Option.bind_some]
     have hb : bad er := by unfold bad; omega
     refine ⟨_, rfl, p1, p2.trans (St.fail hb), fun h => by omega, fun h0 hk => absurd h0 (failS_ne hb), fun h0 hk d hd => ?_⟩
     cases hd with
     | nm => omega
     | call => omega
     | op _ _ hb hd hap =>
      rw [hfst] at hb
      cases hb
      have := p5 h0 (hk.arg hmem) _ hd
      simp only [Prod.mk.injEq] at this
      obtain ⟨⟨rfl, -⟩, rfl⟩ := this
      rw [h5] at hap
      cases hap
      exact absurd rfl he
   ·have : ((!b) || !decide (s'.finder.e = 0)) = true := by
     cases b with
     | false => rfl
     | true => simpa using hg
    simp only [this, if_true]
    refine ⟨_, rfl, p1, p2, fun h => by omega, fun h0 hk => absurd ⟨(p4 h0 (hk.arg hmem)).1, h0⟩ hg, fun h0 hk d hd => ?_⟩
    cases hd with
    | nm => omega
    | call => omega
    | op _ _ hb hd hap =>
     rw [hfst] at hb
     cases hb
     have := p5 h0 (hk.arg hmem) _ hd
     simp only [Prod.mk.injEq] at this
     obtain ⟨⟨rfl, rfl⟩, rfl⟩ := this
     exact absurd ⟨rfl, h0⟩ hg
inductive RefC (ρ : ByteArray → Clock) : Expr → Clock → Prop
 | nm {e : Expr} : e.kind = 1 → RefC ρ e (ρ e.name)
 | call {e : Expr} {c : Clock} : e.kind = 2 → e.args ≠ [] → (∀ a ∈ e.args, RefC ρ a c) → RefC ρ e c
 | op {e a : Expr} {c c' : Clock} : e.kind ≠ 1 → e.kind ≠ 2 → e.args[0]? = some a → RefC ρ a c → m_apply c ⟨e.kind, e.n, e.d⟩ = some (c', 0) → RefC ρ e c'
theorem RefC.of {ρ : ByteArray → Clock} {e : Expr} {c : Clock} (h : RefC ρ e c) : OfC ρ e c := by
 induction h with
 | nm k => exact .nm k
 | @call e c k ha _ ih =>
  cases hx : e.args with
  | nil => exact absurd hx ha
  | cons a l => exact .call k (by simp [hx]) (ih a (by simp [hx]))
 | op k k2 ha _ hap ih => exact .op k k2 ha ih hap
theorem OfC.congr {ρ ρ' : ByteArray → Clock} {e : Expr} {c : Clock} (h : OfC ρ e c) : (∀ y ∈ subsE e, y.kind = 1 → ρ y.name = ρ' y.name) → OfC ρ' e c := by
 induction h with
 | @nm e k => intro h; rw [h e (by rw [subsE_eq]; exact .head _) k]; exact .nm k
 | call k ha _ ih => intro h; exact .call k ha (ih fun y hy => h y (by rw [subsE_eq]; exact .tail _ (subsL_mem (List.mem_of_getElem? ha) hy)))
 | op k k2 ha _ hap ih => intro h; exact .op k k2 ha (ih fun y hy => h y (by rw [subsE_eq]; exact .tail _ (subsL_mem (List.mem_of_getElem? ha) hy))) hap
theorem subL_tail {α : Type} {l : List α} (h : 1 ≤ l.length) : subL l (1 : Int) ((l.length : Nat) : Int) = some (l.drop 1) := by
 unfold subL
 rw [if_pos ⟨by omega, by omega, by omega⟩]
 simp
structure PostCa (s : So) (e : Expr) (r : Unit × So) : Prop where
 known : r.2.known = s.known
 st : St s.finder r.2.finder
 sound : r.2.finder.e = 0 → Kn s.known e → ∀ c, OfC (gdC s.known) e c → RefC (gdC s.known) e c
 full : s.finder.e = 0 → Kn s.known e → (∃ c, RefC (gdC s.known) e c) → r.2 = s
def pCa (x : So × Expr) (r : Unit × So) : Prop := Sp_check_solver_calls x.1 x.2 r ∧ PostCa x.1 x.2 r
noncomputable def m_calls (s : So) (e : Expr) : Option (Unit × So) := pick pCa (s, e)
theorem s_calls : Sat_check_solver_calls m_calls := fun _ _ _ h => (pick_spec h).1
theorem RefC.arg {ρ : ByteArray → Clock} {e a : Expr} (h : ∃ c, RefC ρ e c) (ha : e.kind ≠ 1) (hl : e.kind = 2 ∨ e.args.length = 1) (hm : a ∈ e.args) : ∃ c, RefC ρ a c := by
 obtain ⟨c, h⟩ := h
 cases h with
 | nm k => exact absurd k ha
 | call _ _ h => exact ⟨_, h a hm⟩
 | op _ k2 hb h =>
  rcases hl with hl | hl
  ·exact absurd hl k2
  ·cases hx : e.args with
   | nil => rw [hx] at hl; cases hl
   | cons x l =>
    rw [hx] at hl hm hb
    have : l = [] := by simpa using hl
    subst this
    simp at hb hm
    subst hb; subst hm
    exact ⟨_, h⟩
theorem t_calls (e : Expr) : e.fit → ∀ s : So, ∃ r, m_calls s e = some r ∧ PostCa s e r := by
 induction e using Expr.induct with
 | h e ih =>
  intro hf s
  have hbig : (40 : Nat) ≤ maxLen := by unfold maxLen; decide
  suffices hB : ∃ r, B_check_solver_calls m_calls m_of m_fs s e = some r ∧ PostCa s e r by
   obtain ⟨r, hr, hi⟩ := hB
   obtain ⟨r', h1, h2, h3⟩ := pick_ex (P := pCa) (a := (s, e)) ⟨r, W_check_solver_calls _ _ _ s_calls s_of s_fs _ _ _ hr, hi⟩
   exact ⟨r', h1, h3⟩
  have hlen : e.args.length ≤ 6 := by
   rcases hf.kinds with ⟨k, ha⟩ | ⟨k, hl1, hl2⟩ | ⟨hl, hk⟩
   ·rw [ha]; simp
   ·exact hl2
   ·omega
  -- the arguments agree
  have hA : ∃ a : So × Mp Clock, (if (decide (e.kind = (2 : Int))) then
    (getI e.args (0 : Int)).bind fun y6 =>
    (m_of (check_solver.mk s.finder s.known) y6).bind fun y8 =>
    (subL e.args (1 : Int) ((List.length e.args : Nat) : Int)).bind fun y11 =>
    (iterO (check_solver_calls_L0 y11 y8 e m_fs m_of) ((0 : Int), (check_solver.mk y8.2.finder y8.2.known), y8.2.known) : Option (So × (Mp Clock))).bind fun (vs_16, v0_2_17) =>
    some ((check_solver.mk vs_16.finder v0_2_17), v0_2_17)
   else
    some ((check_solver.mk s.finder s.known), s.known) : Option (So × (Mp Clock))) = some a ∧ a.2 = s.known ∧ St s.finder a.1.finder ∧ (a.1.finder.e = 0 → Kn s.known e → e.kind = 2 → ∃ c, ∀ x ∈ e.args, OfC (gdC s.known) x c) ∧ (s.finder.e = 0 → Kn s.known e → (∃ c, RefC (gdC s.known) e c) → a.1.finder = s.finder) := by
   by_cases k : e.kind = 2
   ·have hl1 : 1 ≤ e.args.length := by
     rcases hf.kinds with ⟨k', ha⟩ | ⟨k', hl1, hl2⟩ | ⟨hl, hk⟩ <;> omega
    have h0' : 0 < e.args.length := by omega
    have hmem0 := List.getElem_mem h0'
    have hget : getI e.args (0 : Int) = some e.args[0] := getI_at (i := 0) h0'
    obtain ⟨⟨⟨c, b⟩, s1⟩, h3, h4⟩ := t_of _ (hf.arg _ hmem0) ⟨s.finder, s.known⟩
    obtain ⟨p1, p2, p3, p4, p5⟩ := h4
    simp only at p1 p2 p4 p5
    have hdl : (e.args.drop 1).length = e.args.length - 1 := by simp
    obtain ⟨r, h1, h2⟩ := iter_idx (f := check_solver_calls_L0 (e.args.drop 1) ((c, b), s1) e m_fs m_of) (fun i v => v.1 = (i : Int) ∧ v.2.2 = s.known ∧ St s.finder v.2.1.finder ∧ St s1.finder v.2.1.finder ∧ (v.2.1.finder.e = 0 → Kn s.known e → ∀ j, j ≤ i → ∀ x, e.args[j]? = some x → OfC (gdC s.known) x c) ∧ (s.finder.e = 0 → Kn s.known e → (∃ c, RefC (gdC s.known) e c) → v.2.1.finder = s.finder)) (e.args.drop 1).length
     (fun r : So × Mp Clock => r.2 = s.known ∧ St s.finder r.1.finder ∧ (r.1.finder.e = 0 → Kn s.known e → ∀ j, j < e.args.length → ∀ x, e.args[j]? = some x → OfC (gdC s.known) x c) ∧ (s.finder.e = 0 → Kn s.known e → (∃ c, RefC (gdC s.known) e c) → r.1.finder = s.finder)) (fun i v hi hv => by
      obtain ⟨_, v0, v1⟩ := v
      obtain ⟨rfl, rfl, hst, hst1, hz, hz2⟩ := hv
      simp only at hst hst1 hz hz2
      unfold check_solver_calls_L0
      have hi1 : i + 1 < e.args.length := by omega
      have hd : (e.args.drop 1)[i] = e.args[i + 1] := by simp [Nat.add_comm]
      have hmem := List.getElem_mem hi1
      obtain ⟨⟨⟨d, b'⟩, s'⟩, h5, h6⟩ := t_of _ (hf.arg _ hmem) ⟨v0.finder, s.known⟩
      obtain ⟨q1, q2, q3, q4, q5⟩ := h6
      simp only at q1 q2 q4 q5
      simp only [dlt hi, if_true, getI_at hi, hd, Option.bind_some, h5]
      have hstay : s.finder.e = 0 → Kn s.known e → (∃ c, RefC (gdC s.known) e c) → ((d, b'), s') = ((c, true), (⟨v0.finder, s.known⟩ : So)) ∧ v0.finder = s.finder := fun h0 hk hr => by
       have h7 := hz2 h0 hk hr
       obtain ⟨c0, hr⟩ := hr
       cases hr with
       | nm k1 => omega
       | op _ k2 => exact absurd k k2
       | call _ _ hr =>
        have e1 := p5 h0 (hk.arg hmem0) _ (hr _ hmem0).of
        have e2 := q5 (by rw [h7]; exact h0) (hk.arg hmem) _ (hr _ hmem).of
        simp only [Prod.mk.injEq] at e1
        obtain ⟨⟨rfl, -⟩, -⟩ := e1
        exact ⟨e2, h7⟩
      by_cases hc : b' = true ∧ d ≠ c
      ·have hcond : (b' && !(decide (d.period = c.period) && decide (d.phase = c.phase))) = true := by
        obtain ⟨rfl, hne⟩ := hc
        simp only [Bool.true_and, Bool.not_eq_true', ← Bool.decide_and, decide_eq_false_iff_not]
        intro ⟨h7, h8⟩
        exact hne (by cases d; cases c; simp_all)
       simp only [hcond, if_true, v_fs, Option.bind_some]
       have hbad : bad 5 := .inl rfl
       refine .inl ⟨_, rfl, winc hi (by omega), q1, hst.trans (q2.trans (St.fail hbad)), hst1.trans (q2.trans (St.fail hbad)), fun h0 _ => absurd h0 (failS_ne hbad), fun h0 hk hr => ?_⟩
       have := (hstay h0 hk hr).1
       simp only [Prod.mk.injEq] at this
       exact absurd this.1.1 hc.2
      ·have hcond : (b' && !(decide (d.period = c.period) && decide (d.phase = c.phase))) = false := by
        cases b' with
        | false => rfl
        | true =>
         have : d = c := Classical.not_not.1 fun h => hc ⟨rfl, h⟩
         subst this
         simp
       simp only [hcond, Bool.false_eq_true, if_false, Option.bind_some]
       refine .inl ⟨_, rfl, winc hi (by omega), q1, hst.trans q2, hst1.trans q2, fun h0 hk j hj x hx => ?_, fun h0 hk hr => ?_⟩
       ·simp only at h0
        by_cases hji : j ≤ i
        ·exact hz (by rw [← q2.zero h0]; exact h0) hk j hji x hx
        ·obtain rfl : j = i + 1 := by omega
         rw [List.getElem?_eq_getElem hi1] at hx
         injection hx with hx
         subst hx
         obtain ⟨hb, ho⟩ := q4 h0 (hk.arg hmem)
         have : d = c := Classical.not_not.1 fun h => hc ⟨hb, h⟩
         subst this
         exact ho
       ·obtain ⟨h7, h8⟩ := hstay h0 hk hr
        simp only [Prod.mk.injEq] at h7
        obtain ⟨_, rfl⟩ := h7
        exact h8) (fun v hv => by
      obtain ⟨_, v0, v1⟩ := v
      obtain ⟨rfl, rfl, hst, hst1, hz, hz2⟩ := hv
      simp only at hst hst1 hz hz2
      unfold check_solver_calls_L0
      simp only [dge, Bool.false_eq_true, if_false]
      exact ⟨_, rfl, rfl, hst, fun h0 hk j hj => hz h0 hk j (by omega), hz2⟩) (v0 := ((0 : Int), (⟨s1.finder, s1.known⟩ : So), s1.known)) ⟨rfl, p1, p2, St.refl _, fun h0 hk j hj x hx => by
       simp only at h0
       obtain rfl : j = 0 := by omega
       rw [List.getElem?_eq_getElem h0'] at hx
       injection hx with hx
       subst hx
       exact (p4 h0 (hk.arg hmem0)).2, fun h0 hk ⟨c0, hr⟩ => by
       cases hr with
       | nm k1 => omega
       | op _ k2 => exact absurd k k2
       | call _ _ hr =>
        have e1 := p5 h0 (hk.arg hmem0) _ (hr _ hmem0).of
        simp only [Prod.mk.injEq] at e1
        obtain ⟨_, rfl⟩ := e1
        rfl⟩
    simp only [k, decide_true, if_true, hget, h3, subL_tail hl1, Option.bind_some]
    rw [h1]
    obtain ⟨g1, g2, g3, g4⟩ := h2
    refine ⟨_, rfl, g1, g2, fun h0 hk _ => ⟨c, fun x hx => ?_⟩, g4⟩
    obtain ⟨j, hj⟩ := List.getElem?_of_mem hx
    exact g3 h0 hk j (List.getElem?_eq_some_iff.1 hj).1 x hj
   ·simp only [decide_eq_false k, Bool.false_eq_true, if_false]
    exact ⟨_, rfl, rfl, St.refl _, fun _ _ k2 => absurd k2 k, fun _ _ _ => rfl⟩
  obtain ⟨⟨a1, a2⟩, hA1, rfl, hA3, hA4, hA5⟩ := hA
  obtain ⟨r, h1, h2⟩ := iter_idx (f := check_solver_calls_L1 e m_calls) (fun i v => v.1 = (i : Int) ∧ v.2.2 = s.known ∧ St a1.finder v.2.1.finder ∧ (v.2.1.finder.e = 0 → Kn s.known e → ∀ j, j < i → ∀ x, e.args[j]? = some x → ∀ c, OfC (gdC s.known) x c → RefC (gdC s.known) x c) ∧ (s.finder.e = 0 → Kn s.known e → (∃ c, RefC (gdC s.known) e c) → v.2.1.finder = s.finder)) e.args.length
   (fun r : So × Mp Clock => r.2 = s.known ∧ St a1.finder r.1.finder ∧ (r.1.finder.e = 0 → Kn s.known e → ∀ j, j < e.args.length → ∀ x, e.args[j]? = some x → ∀ c, OfC (gdC s.known) x c → RefC (gdC s.known) x c) ∧ (s.finder.e = 0 → Kn s.known e → (∃ c, RefC (gdC s.known) e c) → r.1.finder = s.finder)) (fun i v hi hv => by
    obtain ⟨_, v0, v1⟩ := v
    obtain ⟨rfl, rfl, hst, hz, hz2⟩ := hv
    simp only at hst hz hz2
    unfold check_solver_calls_L1
    have hmem := List.getElem_mem hi
    obtain ⟨⟨u, s'⟩, h5, q1, q2, q3, q4⟩ := ih _ hmem (hf.arg _ hmem) ⟨v0.finder, s.known⟩
    simp only at q1 q2 q3 q4
    simp only [dlt hi, if_true, getI_at hi, Option.bind_some, h5]
    refine .inl ⟨_, rfl, winc hi (by omega), q1, hst.trans q2, fun h0 hk j hj x hx => ?_, fun h0 hk hr => ?_⟩
    ·simp only at h0
     by_cases hji : j < i
     ·exact hz (by rw [← q2.zero h0]; exact h0) hk j hji x hx
     ·obtain rfl : j = i := by omega
      rw [List.getElem?_eq_getElem hi] at hx
      injection hx with hx
      subst hx
      exact q3 h0 (hk.arg hmem)
    ·have h7 := hz2 h0 hk hr
     have hk1 : e.kind ≠ 1 := fun h => by
      rcases hf.kinds with ⟨_, ha⟩ | ⟨k', _⟩ | ⟨hl, hk⟩
      ·rw [ha] at hi; cases hi
      ·omega
      ·omega
     have hk2 : e.kind = 2 ∨ e.args.length = 1 := by
      rcases hf.kinds with ⟨_, ha⟩ | ⟨k', _⟩ | ⟨hl, hk⟩
      ·rw [ha] at hi; cases hi
      ·exact .inl k'
      ·exact .inr hl
     have := q4 (by rw [h7]; exact h0) (hk.arg hmem) (RefC.arg hr hk1 hk2 hmem)
     subst this
     exact h7) (fun v hv => by
    obtain ⟨_, v0, v1⟩ := v
    obtain ⟨rfl, rfl, hst, hz, hz2⟩ := hv
    simp only at hst hz hz2
    unfold check_solver_calls_L1
    simp only [dge, Bool.false_eq_true, if_false]
    exact ⟨_, rfl, rfl, hst, hz, hz2⟩) (v0 := ((0 : Int), (⟨a1.finder, s.known⟩ : So), s.known)) ⟨rfl, rfl, St.refl _, fun _ _ j hj => by omega, hA5⟩
  unfold B_check_solver_calls
  rw [hA1]
  simp only [Option.bind_some]
  rw [h1]
  obtain ⟨g1, g2, g3, g4⟩ := h2
  refine ⟨_, rfl, g1, hA3.trans g2, fun h0 hk c hc => ?_, fun h0 hk hr => ?_⟩
  ·simp only at h0
   have hall : ∀ x ∈ e.args, ∀ c, OfC (gdC s.known) x c → RefC (gdC s.known) x c := fun x hx => by
    obtain ⟨j, hj⟩ := List.getElem?_of_mem hx
    exact g3 h0 hk j (List.getElem?_eq_some_iff.1 hj).1 x hj
   cases hc with
   | nm k => exact .nm k
   | op k k2 ha hc hap => exact .op k k2 ha (hall _ (List.mem_of_getElem? ha) _ hc) hap
   | call k ha hc =>
    obtain ⟨d, hd⟩ := hA4 (by rw [← g2.zero h0]; exact h0) hk k
    have hm := List.mem_of_getElem? ha
    cases hc.det (hd _ hm)
    exact .call k (fun h => by rw [h] at hm; cases hm) fun x hx => hall x hx _ (hd x hx)
  ·have := g4 h0 hk hr
   simp only [g1, this]
end Go.Proofs.Ytohmmfimedgccaa.E
end
section
namespace Go.Proofs.Ytohmmfimedgccaa.E
set_option maxRecDepth 100000
set_option maxHeartbeats 4000000
set_option linter.unusedVariables false
set_option linter.unusedSimpArgs false
noncomputable def ref06_Node_L0 (a0 : Program) (a1 : ByteArray) : Int → Option (Int ⊕ (Int ⊕ Unit))
 | vi_3 =>
  if (decide (vi_3 < ((List.length a0.nodes : Nat) : Int))) then
   ((getI a0.nodes vi_3).bind fun y9 =>
   if (decide (y9.name = a1)) then
    some (.inl vi_3)
   else
    some (.inr ()) : Option (Int ⊕ Unit)).bind fun x => match x with
   | .inl r => some (.inr (.inl r))
   | .inr _ =>
    some (.inl (IntKind.i64.wrap (vi_3 + (1 : Int))))
  else
   some (.inr (.inr ()))
noncomputable def B_ref06_Node (a0 : Program) (a1 : ByteArray) : Option Int :=
 (iterO (ref06_Node_L0 a0 a1) (0 : Int) : Option (Int ⊕ Unit)).bind fun x => match x with
 | .inl r => some r
 | .inr _ =>
  some (-1 : Int)
abbrev ref06_Node_A0 (a0 : Program) : List PV := [(.sl (List.map Node.cl a0.nodes)), (.sl (List.map Input.cl a0.inputs)), (.sl (List.map Flow.cl a0.flows)), (.sl (List.map Output.cl a0.outputs))]
theorem W_ref06_Node : Sat_ref06_Node (B_ref06_Node) := by
 intro a0 a1 r h σ K hK
 refine w_fp Try.func23 rfl rfl (by kernel_rfl) ?_
 unfold B_ref06_Node at h
 have hP := Pre.refl σ
 have E0 : argE [(.ag (ref06_Node_A0 a0)), (.v (.string a1))] 0 = (.ag (ref06_Node_A0 a0)) := rfl
 have E1 : argE [(.ag (ref06_Node_A0 a0)), (.v (.string a1))] 1 = (.v (.string a1)) := rfl
 have TT := cj12 Expr.rlen T_2 T_22 T_23 T_24 T_25 T_27 T_3 T_39 T_9 T_97 T_99
 refine w_sa (fun e s => ∃ i2 : Nat, Bx σ s i2 27 (ref06_Node_A0 a0) ∧ e 1 = (.v (.string a1)) ∧ e 2 = (.pt i2 0) ∧ Pre σ s) ?_ fun e s hI => ?_
 ·refine w_x (cj3 E0 E1 TT) (k := ?_)
  exact cw_n ⟨_, WkE.refl _, σ.length, (Bx.new hP 27 (ref06_Node_A0 a0)), (xv (cj3 E0 E1 TT)), (xv (cj3 E0 E1 TT)), (hP.app _)⟩
 obtain ⟨i2, X2, E1, E2, hP⟩ := hI
 refine w_assoc ?_
 refine w_sa (fun e s => Bx σ s i2 27 (ref06_Node_A0 a0) ∧ e 1 = (.v (.string a1)) ∧ e 2 = (.pt i2 0) ∧ e 5 = (.v (.int .i64 (0 : Int))) ∧ Pre σ s) ?_ fun e s hI => ?_
 ·refine w_x (cj4 E1 E2 X2.get TT) (k := ?_)
  have q1 := cj4 E1 E2 X2.get TT
  exact cw_n ⟨_, WkE.refl _, X2, (xv q1), (xv q1), (xv q1), hP⟩
 obtain ⟨X2, E1, E2, E5, hP⟩ := hI
 obtain ⟨x1, h2, h⟩ := bnd_some h
 refine w_sa (fun e s => .inr () = x1 ∧ Pre σ s) ?_ fun e s hI => ?_
 ·refine w_block ?_
  refine w_iter h2 (fun v e s => ∃ vi_3 : Int, vi_3 = v ∧ Bx σ s i2 27 (ref06_Node_A0 a0) ∧ e 1 = (.v (.string a1)) ∧ e 2 = (.pt i2 0) ∧ e 5 = (.v (.int .i64 vi_3)) ∧ Pre σ s) ⟨_, WkE.refl _, _, rfl, X2, (xv (cj3 E1 E2 E5)), (xv (cj3 E1 E2 E5)), (xv (cj3 E1 E2 E5)), hP⟩ fun v x4 e s hf5 hI => ?_
  obtain ⟨vi_3, rfl, X2, E1, E2, E5, hP⟩ := hI
  unfold ref06_Node_L0 at hf5
  try dsimp only at hf5
  refine w_assoc ?_
  refine w_sa (fun e s => Bx σ s i2 27 (ref06_Node_A0 a0) ∧ e 1 = (.v (.string a1)) ∧ e 2 = (.pt i2 0) ∧ e 5 = (.v (.int .i64 vi_3)) ∧ e 10 = (.v (.bool (decide (vi_3 < ((List.length a0.nodes : Nat) : Int))))) ∧ Pre σ s) ?_ fun e s hI => ?_
  ·refine w_x (cj5 E1 E2 E5 X2.get TT) (k := ?_)
   have q2 := cj5 E1 E2 E5 X2.get TT
   exact cw_n ⟨_, WkE.refl _, X2, (xv q2), (xv q2), (xv q2), (xv q2), hP⟩
  obtain ⟨X2, E1, E2, E5, E10, hP⟩ := hI
  refine w_seq ?_
  rcases ite_some hf5 with ⟨hb6, hf5⟩ | ⟨hb6, hf5⟩
  ·refine xt (cj5 E1 E2 E5 E10 hb6) ?_
   refine w_skip ?_
   refine w_sq ?_
   obtain ⟨x7, h8, hf5⟩ := bnd_some hf5
   refine w_sa (fun e s => .inr () = x7 ∧ Bx σ s i2 27 (ref06_Node_A0 a0) ∧ e 1 = (.v (.string a1)) ∧ e 2 = (.pt i2 0) ∧ e 5 = (.v (.int .i64 vi_3)) ∧ Pre σ s) ?_ fun e s hI => ?_
   ·refine w_block ?_
    obtain ⟨y9, h10, h8⟩ := bnd_some h8
    refine w_sa (fun e s => Bx σ s i2 27 (ref06_Node_A0 a0) ∧ e 1 = (.v (.string a1)) ∧ e 2 = (.pt i2 0) ∧ e 5 = (.v (.int .i64 vi_3)) ∧ e 20 = (.v (.bool (decide (y9.name = a1)))) ∧ Pre σ s) ?_ fun e s hI => ?_
    ·have R11 : (List.map Node.cl a0.nodes)[(vi_3).toNat]? = some [(.v (.string y9.name)), (.sl (List.map C_s y9.params)), (.v (.int .i64 y9.budget)), (.v (.int .i64 y9.body.kind)), (.v (.string y9.body.name)), (.v (.int .i64 y9.body.n)), (.v (.int .i64 y9.body.d)), (.sl (Expr.rows y9.body.args)), (.v (.int .i64 y9.body.at_)), (.v (.int .i64 y9.at_))] := map_get (getI_some h10).2
     refine w_x (cj8 E1 E2 E5 E10 X2.get R11 (getI_some h10).1 TT) (k := ?_)
     have q3 := cj8 E1 E2 E5 E10 X2.get R11 (getI_some h10).1 TT
     exact cw_n ⟨_, WkE.refl _, X2, (xv q3), (xv q3), (xv q3), (xv q3), hP⟩
    obtain ⟨X2, E1, E2, E5, E20, hP⟩ := hI
    rcases ite_some h8 with ⟨hb12, h8⟩ | ⟨hb12, h8⟩
    ·refine xt (cj5 E1 E2 E5 E20 hb12) ?_
     refine w_sa (fun e s => e 4 = (.v (.int .i64 vi_3)) ∧ Pre σ s) ?_ fun e s hI => ?_
     ·refine w_x (cj6 E1 E2 E5 E20 X2.get TT) (k := ?_)
      exact cw_n ⟨_, WkE.refl _, (xv (cj6 E1 E2 E5 E20 X2.get TT)), hP⟩
     obtain ⟨E4, hP⟩ := hI
     refine w_ret ?_
     refine w_bkr ?_
     obtain rfl := some_inj h8
     refine cw_r ?_
     try dsimp only at hf5
     obtain rfl := some_inj hf5
     refine iq_r rfl fun hr13 => ?_
     obtain rfl := hr13
     refine w_bkr ?_
     refine cw_r ?_
     try dsimp only at h
     obtain rfl := some_inj h
     exact w_fin (fun _ => rfl) (xr (rs := #[.tmp 4]) E4) hP (r' := (.v (.int .i64 vi_3))) (.refl _) (.v _) hK
    ·refine xf (cj5 E1 E2 E5 E20 hb12) ?_
     refine w_skip ?_
     refine w_bk ?_
     obtain rfl := some_inj h8
     have q4 := cj4 E1 E2 E5 E20
     exact cw_n ⟨_, WkE.refl _, rfl, X2, (xv q4), (xv q4), (xv q4), hP⟩
   obtain ⟨rfl, X2, E1, E2, E5, hP⟩ := hI
   try dsimp only at hf5
   refine w_x (cj5 E1 E2 E5 X2.get TT) (k := ?_)
   obtain rfl := some_inj hf5
   have q5 := cj5 E1 E2 E5 X2.get TT
   exact iq_n rfl ⟨_, WkE.refl _, _, rfl, X2, (xv q5), (xv q5), (xv q5), hP⟩
  ·refine xf (cj5 E1 E2 E5 E10 hb6) ?_
   refine w_exit ?_
   refine w_sqx ?_
   obtain rfl := some_inj hf5
   refine iq_x rfl fun hr14 => ?_
   obtain rfl := hr14
   refine w_bkx ?_
   exact cw_n ⟨_, WkE.refl _, rfl, hP⟩
 obtain ⟨rfl, hP⟩ := hI
 try dsimp only at h
 refine w_sa (fun e s => e 4 = (.v (.int .i64 (-1 : Int))) ∧ Pre σ s) ?_ fun e s hI => ?_
 ·refine w_x Expr.rlen (k := ?_)
  exact cw_n ⟨_, WkE.refl _, (xv Expr.rlen), hP⟩
 obtain ⟨E4, hP⟩ := hI
 refine w_ret ?_
 obtain rfl := some_inj h
 exact w_fin (fun _ => rfl) (xr (rs := #[.tmp 4]) E4) hP (r' := (.v (.int .i64 (-1 : Int)))) (.refl _) (.v _) hK
noncomputable def ref06_Flow_L1 (a0 : Program) (a1 : ByteArray) : Int → Option (Int ⊕ (Int ⊕ Unit))
 | vi_17 =>
  if (decide (vi_17 < ((List.length a0.flows : Nat) : Int))) then
   ((getI a0.flows vi_17).bind fun y23 =>
   if (decide (y23.name = a1)) then
    some (.inl (IntKind.i64.wrap (((List.length a0.inputs : Nat) : Int) + vi_17)))
   else
    some (.inr ()) : Option (Int ⊕ Unit)).bind fun x => match x with
   | .inl r => some (.inr (.inl r))
   | .inr _ =>
    some (.inl (IntKind.i64.wrap (vi_17 + (1 : Int))))
  else
   some (.inr (.inr ()))
noncomputable def ref06_Flow_L0 (a0 : Program) (a1 : ByteArray) : Int → Option (Int ⊕ (Int ⊕ Unit))
 | vi_3 =>
  if (decide (vi_3 < ((List.length a0.inputs : Nat) : Int))) then
   ((getI a0.inputs vi_3).bind fun y9 =>
   if (decide (y9.name = a1)) then
    some (.inl vi_3)
   else
    some (.inr ()) : Option (Int ⊕ Unit)).bind fun x => match x with
   | .inl r => some (.inr (.inl r))
   | .inr _ =>
    some (.inl (IntKind.i64.wrap (vi_3 + (1 : Int))))
  else
   some (.inr (.inr ()))
noncomputable def B_ref06_Flow (a0 : Program) (a1 : ByteArray) : Option Int :=
 (iterO (ref06_Flow_L0 a0 a1) (0 : Int) : Option (Int ⊕ Unit)).bind fun x => match x with
 | .inl r => some r
 | .inr _ =>
  (iterO (ref06_Flow_L1 a0 a1) (0 : Int) : Option (Int ⊕ Unit)).bind fun x => match x with
  | .inl r => some r
  | .inr _ =>
   some (-1 : Int)
abbrev ref06_Flow_A0 (a0 : Program) : List PV := [(.sl (List.map Node.cl a0.nodes)), (.sl (List.map Input.cl a0.inputs)), (.sl (List.map Flow.cl a0.flows)), (.sl (List.map Output.cl a0.outputs))]
theorem W_ref06_Flow : Sat_ref06_Flow (B_ref06_Flow) := by
 intro a0 a1 r h σ K hK
 refine w_fp Try.func25 rfl rfl (by kernel_rfl) ?_
 unfold B_ref06_Flow at h
 have hP := Pre.refl σ
 have E0 : argE [(.ag (ref06_Flow_A0 a0)), (.v (.string a1))] 0 = (.ag (ref06_Flow_A0 a0)) := rfl
 have E1 : argE [(.ag (ref06_Flow_A0 a0)), (.v (.string a1))] 1 = (.v (.string a1)) := rfl
 have TT := cj12 Expr.rlen T_2 T_22 T_23 T_24 T_25 T_27 T_3 T_39 T_41 T_9 T_96
 refine w_sa (fun e s => ∃ i2 : Nat, Bx σ s i2 27 (ref06_Flow_A0 a0) ∧ e 1 = (.v (.string a1)) ∧ e 2 = (.pt i2 0) ∧ Pre σ s) ?_ fun e s hI => ?_
 ·refine w_x (cj3 E0 E1 TT) (k := ?_)
  exact cw_n ⟨_, WkE.refl _, σ.length, (Bx.new hP 27 (ref06_Flow_A0 a0)), (xv (cj3 E0 E1 TT)), (xv (cj3 E0 E1 TT)), (hP.app _)⟩
 obtain ⟨i2, X2, E1, E2, hP⟩ := hI
 refine w_assoc ?_
 refine w_sa (fun e s => Bx σ s i2 27 (ref06_Flow_A0 a0) ∧ e 1 = (.v (.string a1)) ∧ e 2 = (.pt i2 0) ∧ e 5 = (.v (.int .i64 (0 : Int))) ∧ Pre σ s) ?_ fun e s hI => ?_
 ·refine w_x (cj4 E1 E2 X2.get TT) (k := ?_)
  have q1 := cj4 E1 E2 X2.get TT
  exact cw_n ⟨_, WkE.refl _, X2, (xv q1), (xv q1), (xv q1), hP⟩
 obtain ⟨X2, E1, E2, E5, hP⟩ := hI
 obtain ⟨x1, h2, h⟩ := bnd_some h
 refine w_sa (fun e s => .inr () = x1 ∧ Bx σ s i2 27 (ref06_Flow_A0 a0) ∧ e 1 = (.v (.string a1)) ∧ e 2 = (.pt i2 0) ∧ Pre σ s) ?_ fun e s hI => ?_
 ·refine w_block ?_
  refine w_iter h2 (fun v e s => ∃ vi_3 : Int, vi_3 = v ∧ Bx σ s i2 27 (ref06_Flow_A0 a0) ∧ e 1 = (.v (.string a1)) ∧ e 2 = (.pt i2 0) ∧ e 5 = (.v (.int .i64 vi_3)) ∧ Pre σ s) ⟨_, WkE.refl _, _, rfl, X2, (xv (cj3 E1 E2 E5)), (xv (cj3 E1 E2 E5)), (xv (cj3 E1 E2 E5)), hP⟩ fun v x4 e s hf5 hI => ?_
  obtain ⟨vi_3, rfl, X2, E1, E2, E5, hP⟩ := hI
  unfold ref06_Flow_L0 at hf5
  try dsimp only at hf5
  refine w_assoc ?_
  refine w_sa (fun e s => Bx σ s i2 27 (ref06_Flow_A0 a0) ∧ e 1 = (.v (.string a1)) ∧ e 2 = (.pt i2 0) ∧ e 5 = (.v (.int .i64 vi_3)) ∧ e 11 = (.v (.bool (decide (vi_3 < ((List.length a0.inputs : Nat) : Int))))) ∧ Pre σ s) ?_ fun e s hI => ?_
  ·refine w_x (cj5 E1 E2 E5 X2.get TT) (k := ?_)
   have q2 := cj5 E1 E2 E5 X2.get TT
   exact cw_n ⟨_, WkE.refl _, X2, (xv q2), (xv q2), (xv q2), (xv q2), hP⟩
  obtain ⟨X2, E1, E2, E5, E11, hP⟩ := hI
  refine w_seq ?_
  rcases ite_some hf5 with ⟨hb6, hf5⟩ | ⟨hb6, hf5⟩
  ·refine xt (cj5 E1 E2 E5 E11 hb6) ?_
   refine w_skip ?_
   refine w_sq ?_
   obtain ⟨x7, h8, hf5⟩ := bnd_some hf5
   refine w_sa (fun e s => .inr () = x7 ∧ Bx σ s i2 27 (ref06_Flow_A0 a0) ∧ e 1 = (.v (.string a1)) ∧ e 2 = (.pt i2 0) ∧ e 5 = (.v (.int .i64 vi_3)) ∧ Pre σ s) ?_ fun e s hI => ?_
   ·refine w_block ?_
    obtain ⟨y9, h10, h8⟩ := bnd_some h8
    refine w_sa (fun e s => Bx σ s i2 27 (ref06_Flow_A0 a0) ∧ e 1 = (.v (.string a1)) ∧ e 2 = (.pt i2 0) ∧ e 5 = (.v (.int .i64 vi_3)) ∧ e 21 = (.v (.bool (decide (y9.name = a1)))) ∧ Pre σ s) ?_ fun e s hI => ?_
    ·have R11 : (List.map Input.cl a0.inputs)[(vi_3).toNat]? = some [(.v (.string y9.name)), (.v (.int .i64 y9.period)), (.v (.int .i64 y9.phase)), (.v (.int .i64 y9.at_))] := map_get (getI_some h10).2
     refine w_x (cj8 E1 E2 E5 E11 X2.get R11 (getI_some h10).1 TT) (k := ?_)
     have q3 := cj8 E1 E2 E5 E11 X2.get R11 (getI_some h10).1 TT
     exact cw_n ⟨_, WkE.refl _, X2, (xv q3), (xv q3), (xv q3), (xv q3), hP⟩
    obtain ⟨X2, E1, E2, E5, E21, hP⟩ := hI
    rcases ite_some h8 with ⟨hb12, h8⟩ | ⟨hb12, h8⟩
    ·refine xt (cj5 E1 E2 E5 E21 hb12) ?_
     refine w_sa (fun e s => e 4 = (.v (.int .i64 vi_3)) ∧ Pre σ s) ?_ fun e s hI => ?_
     ·refine w_x (cj6 E1 E2 E5 E21 X2.get TT) (k := ?_)
      exact cw_n ⟨_, WkE.refl _, (xv (cj6 E1 E2 E5 E21 X2.get TT)), hP⟩
     obtain ⟨E4, hP⟩ := hI
     refine w_ret ?_
     refine w_bkr ?_
     obtain rfl := some_inj h8
     refine cw_r ?_
     try dsimp only at hf5
     obtain rfl := some_inj hf5
     refine iq_r rfl fun hr13 => ?_
     obtain rfl := hr13
     refine w_bkr ?_
     refine cw_r ?_
     try dsimp only at h
     obtain rfl := some_inj h
     exact w_fin (fun _ => rfl) (xr (rs := #[.tmp 4]) E4) hP (r' := (.v (.int .i64 vi_3))) (.refl _) (.v _) hK
    ·refine xf (cj5 E1 E2 E5 E21 hb12) ?_
     refine w_skip ?_
     refine w_bk ?_
     obtain rfl := some_inj h8
     have q4 := cj4 E1 E2 E5 E21
     exact cw_n ⟨_, WkE.refl _, rfl, X2, (xv q4), (xv q4), (xv q4), hP⟩
   obtain ⟨rfl, X2, E1, E2, E5, hP⟩ := hI
   try dsimp only at hf5
   refine w_x (cj5 E1 E2 E5 X2.get TT) (k := ?_)
   obtain rfl := some_inj hf5
   have q5 := cj5 E1 E2 E5 X2.get TT
   exact iq_n rfl ⟨_, WkE.refl _, _, rfl, X2, (xv q5), (xv q5), (xv q5), hP⟩
  ·refine xf (cj5 E1 E2 E5 E11 hb6) ?_
   refine w_exit ?_
   refine w_sqx ?_
   obtain rfl := some_inj hf5
   refine iq_x rfl fun hr14 => ?_
   obtain rfl := hr14
   refine w_bkx ?_
   exact cw_n ⟨_, WkE.refl _, rfl, X2, (xv (cj4 E1 E2 E5 E11)), (xv (cj4 E1 E2 E5 E11)), hP⟩
 obtain ⟨rfl, X2, E1, E2, hP⟩ := hI
 try dsimp only at h
 refine w_assoc ?_
 refine w_sa (fun e s => Bx σ s i2 27 (ref06_Flow_A0 a0) ∧ e 1 = (.v (.string a1)) ∧ e 2 = (.pt i2 0) ∧ e 6 = (.v (.int .i64 (0 : Int))) ∧ Pre σ s) ?_ fun e s hI => ?_
 ·refine w_x (cj4 E1 E2 X2.get TT) (k := ?_)
  have q6 := cj4 E1 E2 X2.get TT
  exact cw_n ⟨_, WkE.refl _, X2, (xv q6), (xv q6), (xv q6), hP⟩
 obtain ⟨X2, E1, E2, E6, hP⟩ := hI
 obtain ⟨x15, h16, h⟩ := bnd_some h
 refine w_sa (fun e s => .inr () = x15 ∧ Pre σ s) ?_ fun e s hI => ?_
 ·refine w_block ?_
  refine w_iter h16 (fun v e s => ∃ vi_17 : Int, vi_17 = v ∧ Bx σ s i2 27 (ref06_Flow_A0 a0) ∧ e 1 = (.v (.string a1)) ∧ e 2 = (.pt i2 0) ∧ e 6 = (.v (.int .i64 vi_17)) ∧ Pre σ s) ⟨_, WkE.refl _, _, rfl, X2, (xv (cj3 E1 E2 E6)), (xv (cj3 E1 E2 E6)), (xv (cj3 E1 E2 E6)), hP⟩ fun v x18 e s hf19 hI => ?_
  obtain ⟨vi_17, rfl, X2, E1, E2, E6, hP⟩ := hI
  unfold ref06_Flow_L1 at hf19
  try dsimp only at hf19
  refine w_assoc ?_
  refine w_sa (fun e s => Bx σ s i2 27 (ref06_Flow_A0 a0) ∧ e 1 = (.v (.string a1)) ∧ e 2 = (.pt i2 0) ∧ e 6 = (.v (.int .i64 vi_17)) ∧ e 27 = (.v (.bool (decide (vi_17 < ((List.length a0.flows : Nat) : Int))))) ∧ Pre σ s) ?_ fun e s hI => ?_
  ·refine w_x (cj5 E1 E2 E6 X2.get TT) (k := ?_)
   have q7 := cj5 E1 E2 E6 X2.get TT
   exact cw_n ⟨_, WkE.refl _, X2, (xv q7), (xv q7), (xv q7), (xv q7), hP⟩
  obtain ⟨X2, E1, E2, E6, E27, hP⟩ := hI
  refine w_seq ?_
  rcases ite_some hf19 with ⟨hb20, hf19⟩ | ⟨hb20, hf19⟩
  ·refine xt (cj5 E1 E2 E6 E27 hb20) ?_
   refine w_skip ?_
   refine w_sq ?_
   obtain ⟨x21, h22, hf19⟩ := bnd_some hf19
   refine w_sa (fun e s => .inr () = x21 ∧ Bx σ s i2 27 (ref06_Flow_A0 a0) ∧ e 1 = (.v (.string a1)) ∧ e 2 = (.pt i2 0) ∧ e 6 = (.v (.int .i64 vi_17)) ∧ Pre σ s) ?_ fun e s hI => ?_
   ·refine w_block ?_
    obtain ⟨y23, h24, h22⟩ := bnd_some h22
    refine w_sa (fun e s => Bx σ s i2 27 (ref06_Flow_A0 a0) ∧ e 1 = (.v (.string a1)) ∧ e 2 = (.pt i2 0) ∧ e 6 = (.v (.int .i64 vi_17)) ∧ e 37 = (.v (.bool (decide (y23.name = a1)))) ∧ Pre σ s) ?_ fun e s hI => ?_
    ·have R25 : (List.map Flow.cl a0.flows)[(vi_17).toNat]? = some [(.v (.string y23.name)), (.v (.int .i64 y23.e.kind)), (.v (.string y23.e.name)), (.v (.int .i64 y23.e.n)), (.v (.int .i64 y23.e.d)), (.sl (Expr.rows y23.e.args)), (.v (.int .i64 y23.e.at_)), (.v (.int .i64 y23.at_))] := map_get (getI_some h24).2
     refine w_x (cj8 E1 E2 E6 E27 X2.get R25 (getI_some h24).1 TT) (k := ?_)
     have q8 := cj8 E1 E2 E6 E27 X2.get R25 (getI_some h24).1 TT
     exact cw_n ⟨_, WkE.refl _, X2, (xv q8), (xv q8), (xv q8), (xv q8), hP⟩
    obtain ⟨X2, E1, E2, E6, E37, hP⟩ := hI
    rcases ite_some h22 with ⟨hb26, h22⟩ | ⟨hb26, h22⟩
    ·refine xt (cj5 E1 E2 E6 E37 hb26) ?_
     refine w_sa (fun e s => e 4 = (.v (.int .i64 (IntKind.i64.wrap (((List.length a0.inputs : Nat) : Int) + vi_17)))) ∧ Pre σ s) ?_ fun e s hI => ?_
     ·refine w_x (cj6 E1 E2 E6 E37 X2.get TT) (k := ?_)
      exact cw_n ⟨_, WkE.refl _, (xv (cj6 E1 E2 E6 E37 X2.get TT)), hP⟩
     obtain ⟨E4, hP⟩ := hI
     refine w_ret ?_
     refine w_bkr ?_
     obtain rfl := some_inj h22
     refine cw_r ?_
     try dsimp only at hf19
     obtain rfl := some_inj hf19
     refine iq_r rfl fun hr27 => ?_
     obtain rfl := hr27
     refine w_bkr ?_
     refine cw_r ?_
     try dsimp only at h
     obtain rfl := some_inj h
     exact w_fin (fun _ => rfl) (xr (rs := #[.tmp 4]) E4) hP (r' := (.v (.int .i64 (IntKind.i64.wrap (((List.length a0.inputs : Nat) : Int) + vi_17))))) (.refl _) (.v _) hK
    ·refine xf (cj5 E1 E2 E6 E37 hb26) ?_
     refine w_skip ?_
     refine w_bk ?_
     obtain rfl := some_inj h22
     have q9 := cj4 E1 E2 E6 E37
     exact cw_n ⟨_, WkE.refl _, rfl, X2, (xv q9), (xv q9), (xv q9), hP⟩
   obtain ⟨rfl, X2, E1, E2, E6, hP⟩ := hI
   try dsimp only at hf19
   refine w_x (cj5 E1 E2 E6 X2.get TT) (k := ?_)
   obtain rfl := some_inj hf19
   have q10 := cj5 E1 E2 E6 X2.get TT
   exact iq_n rfl ⟨_, WkE.refl _, _, rfl, X2, (xv q10), (xv q10), (xv q10), hP⟩
  ·refine xf (cj5 E1 E2 E6 E27 hb20) ?_
   refine w_exit ?_
   refine w_sqx ?_
   obtain rfl := some_inj hf19
   refine iq_x rfl fun hr28 => ?_
   obtain rfl := hr28
   refine w_bkx ?_
   exact cw_n ⟨_, WkE.refl _, rfl, hP⟩
 obtain ⟨rfl, hP⟩ := hI
 try dsimp only at h
 refine w_sa (fun e s => e 4 = (.v (.int .i64 (-1 : Int))) ∧ Pre σ s) ?_ fun e s hI => ?_
 ·refine w_x Expr.rlen (k := ?_)
  exact cw_n ⟨_, WkE.refl _, (xv Expr.rlen), hP⟩
 obtain ⟨E4, hP⟩ := hI
 refine w_ret ?_
 obtain rfl := some_inj h
 exact w_fin (fun _ => rfl) (xr (rs := #[.tmp 4]) E4) hP (r' := (.v (.int .i64 (-1 : Int)))) (.refl _) (.v _) hK
noncomputable def ref06_param_L0 (a0 : Node) (a1 : ByteArray) : Int → Option (Int ⊕ (Bool ⊕ Unit))
 | vi_3 =>
  if (decide (vi_3 < ((List.length a0.params : Nat) : Int))) then
   ((getI a0.params vi_3).bind fun y9 =>
   if (decide (y9 = a1)) then
    some (.inl true)
   else
    some (.inr ()) : Option (Bool ⊕ Unit)).bind fun x => match x with
   | .inl r => some (.inr (.inl r))
   | .inr _ =>
    some (.inl (IntKind.i64.wrap (vi_3 + (1 : Int))))
  else
   some (.inr (.inr ()))
noncomputable def B_ref06_param (a0 : Node) (a1 : ByteArray) : Option Bool :=
 (iterO (ref06_param_L0 a0 a1) (0 : Int) : Option (Bool ⊕ Unit)).bind fun x => match x with
 | .inl r => some r
 | .inr _ =>
  some false
abbrev ref06_param_A0 (a0 : Node) : List PV := [(.v (.string a0.name)), (.sl (List.map C_s a0.params)), (.v (.int .i64 a0.budget)), (.v (.int .i64 a0.body.kind)), (.v (.string a0.body.name)), (.v (.int .i64 a0.body.n)), (.v (.int .i64 a0.body.d)), (.sl (Expr.rows a0.body.args)), (.v (.int .i64 a0.body.at_)), (.v (.int .i64 a0.at_))]
theorem W_ref06_param : Sat_ref06_param (B_ref06_param) := by
 intro a0 a1 r h σ K hK
 refine w_fp Try.func91 rfl rfl (by kernel_rfl) ?_
 unfold B_ref06_param at h
 have hP := Pre.refl σ
 have E0 : argE [(.ag (ref06_param_A0 a0)), (.v (.string a1))] 0 = (.ag (ref06_param_A0 a0)) := rfl
 have E1 : argE [(.ag (ref06_param_A0 a0)), (.v (.string a1))] 1 = (.v (.string a1)) := rfl
 have TT := cj7 Expr.rlen T_2 T_3 T_39 T_9 T_97 T_99
 refine w_sa (fun e s => ∃ i2 : Nat, Bx σ s i2 99 (ref06_param_A0 a0) ∧ e 1 = (.v (.string a1)) ∧ e 2 = (.pt i2 0) ∧ Pre σ s) ?_ fun e s hI => ?_
 ·refine w_x (cj3 E0 E1 TT) (k := ?_)
  exact cw_n ⟨_, WkE.refl _, σ.length, (Bx.new hP 99 (ref06_param_A0 a0)), (xv (cj3 E0 E1 TT)), (xv (cj3 E0 E1 TT)), (hP.app _)⟩
 obtain ⟨i2, X2, E1, E2, hP⟩ := hI
 refine w_assoc ?_
 refine w_sa (fun e s => Bx σ s i2 99 (ref06_param_A0 a0) ∧ e 1 = (.v (.string a1)) ∧ e 2 = (.pt i2 0) ∧ e 5 = (.v (.int .i64 (0 : Int))) ∧ Pre σ s) ?_ fun e s hI => ?_
 ·refine w_x (cj4 E1 E2 X2.get TT) (k := ?_)
  have q1 := cj4 E1 E2 X2.get TT
  exact cw_n ⟨_, WkE.refl _, X2, (xv q1), (xv q1), (xv q1), hP⟩
 obtain ⟨X2, E1, E2, E5, hP⟩ := hI
 obtain ⟨x1, h2, h⟩ := bnd_some h
 refine w_sa (fun e s => .inr () = x1 ∧ Pre σ s) ?_ fun e s hI => ?_
 ·refine w_block ?_
  refine w_iter h2 (fun v e s => ∃ vi_3 : Int, vi_3 = v ∧ Bx σ s i2 99 (ref06_param_A0 a0) ∧ e 1 = (.v (.string a1)) ∧ e 2 = (.pt i2 0) ∧ e 5 = (.v (.int .i64 vi_3)) ∧ Pre σ s) ⟨_, WkE.refl _, _, rfl, X2, (xv (cj3 E1 E2 E5)), (xv (cj3 E1 E2 E5)), (xv (cj3 E1 E2 E5)), hP⟩ fun v x4 e s hf5 hI => ?_
  obtain ⟨vi_3, rfl, X2, E1, E2, E5, hP⟩ := hI
  unfold ref06_param_L0 at hf5
  try dsimp only at hf5
  refine w_assoc ?_
  refine w_sa (fun e s => Bx σ s i2 99 (ref06_param_A0 a0) ∧ e 1 = (.v (.string a1)) ∧ e 2 = (.pt i2 0) ∧ e 5 = (.v (.int .i64 vi_3)) ∧ e 10 = (.v (.bool (decide (vi_3 < ((List.length a0.params : Nat) : Int))))) ∧ Pre σ s) ?_ fun e s hI => ?_
  ·refine w_x (cj5 E1 E2 E5 X2.get TT) (k := ?_)
   have q2 := cj5 E1 E2 E5 X2.get TT
   exact cw_n ⟨_, WkE.refl _, X2, (xv q2), (xv q2), (xv q2), (xv q2), hP⟩
  obtain ⟨X2, E1, E2, E5, E10, hP⟩ := hI
  refine w_seq ?_
  rcases ite_some hf5 with ⟨hb6, hf5⟩ | ⟨hb6, hf5⟩
  ·refine xt (cj5 E1 E2 E5 E10 hb6) ?_
   refine w_skip ?_
   refine w_sq ?_
   obtain ⟨x7, h8, hf5⟩ := bnd_some hf5
   refine w_sa (fun e s => .inr () = x7 ∧ Bx σ s i2 99 (ref06_param_A0 a0) ∧ e 1 = (.v (.string a1)) ∧ e 2 = (.pt i2 0) ∧ e 5 = (.v (.int .i64 vi_3)) ∧ Pre σ s) ?_ fun e s hI => ?_
   ·refine w_block ?_
    obtain ⟨y9, h10, h8⟩ := bnd_some h8
    refine w_sa (fun e s => Bx σ s i2 99 (ref06_param_A0 a0) ∧ e 1 = (.v (.string a1)) ∧ e 2 = (.pt i2 0) ∧ e 5 = (.v (.int .i64 vi_3)) ∧ e 19 = (.v (.bool (decide (y9 = a1)))) ∧ Pre σ s) ?_ fun e s hI => ?_
    ·have R11 : (List.map C_s a0.params)[(vi_3).toNat]? = some [(.v (.string y9))] := map_get (getI_some h10).2
     refine w_x (cj8 E1 E2 E5 E10 X2.get R11 (getI_some h10).1 TT) (k := ?_)
     have q3 := cj8 E1 E2 E5 E10 X2.get R11 (getI_some h10).1 TT
     exact cw_n ⟨_, WkE.refl _, X2, (xv q3), (xv q3), (xv q3), (xv q3), hP⟩
    obtain ⟨X2, E1, E2, E5, E19, hP⟩ := hI
    rcases ite_some h8 with ⟨hb12, h8⟩ | ⟨hb12, h8⟩
    ·refine xt (cj5 E1 E2 E5 E19 hb12) ?_
     refine w_sa (fun e s => e 4 = (.v (.bool true)) ∧ Pre σ s) ?_ fun e s hI => ?_
     ·refine w_x (cj6 E1 E2 E5 E19 X2.get TT) (k := ?_)
      exact cw_n ⟨_, WkE.refl _, (xv (cj6 E1 E2 E5 E19 X2.get TT)), hP⟩
     obtain ⟨E4, hP⟩ := hI
     refine w_ret ?_
     refine w_bkr ?_
     obtain rfl := some_inj h8
     refine cw_r ?_
     try dsimp only at hf5
     obtain rfl := some_inj hf5
     refine iq_r rfl fun hr13 => ?_
     obtain rfl := hr13
     refine w_bkr ?_
     refine cw_r ?_
     try dsimp only at h
     obtain rfl := some_inj h
     exact w_fin (fun _ => rfl) (xr (rs := #[.tmp 4]) E4) hP (r' := (.v (.bool true))) (.refl _) (.v _) hK
    ·refine xf (cj5 E1 E2 E5 E19 hb12) ?_
     refine w_skip ?_
     refine w_bk ?_
     obtain rfl := some_inj h8
     have q4 := cj4 E1 E2 E5 E19
     exact cw_n ⟨_, WkE.refl _, rfl, X2, (xv q4), (xv q4), (xv q4), hP⟩
   obtain ⟨rfl, X2, E1, E2, E5, hP⟩ := hI
   try dsimp only at hf5
   refine w_x (cj5 E1 E2 E5 X2.get TT) (k := ?_)
   obtain rfl := some_inj hf5
   have q5 := cj5 E1 E2 E5 X2.get TT
   exact iq_n rfl ⟨_, WkE.refl _, _, rfl, X2, (xv q5), (xv q5), (xv q5), hP⟩
  ·refine xf (cj5 E1 E2 E5 E10 hb6) ?_
   refine w_exit ?_
   refine w_sqx ?_
   obtain rfl := some_inj hf5
   refine iq_x rfl fun hr14 => ?_
   obtain rfl := hr14
   refine w_bkx ?_
   exact cw_n ⟨_, WkE.refl _, rfl, hP⟩
 obtain ⟨rfl, hP⟩ := hI
 try dsimp only at h
 refine w_sa (fun e s => e 4 = (.v (.bool false)) ∧ Pre σ s) ?_ fun e s hI => ?_
 ·refine w_x Expr.rlen (k := ?_)
  exact cw_n ⟨_, WkE.refl _, (xv Expr.rlen), hP⟩
 obtain ⟨E4, hP⟩ := hI
 refine w_ret ?_
 obtain rfl := some_inj h
 exact w_fin (fun _ => rfl) (xr (rs := #[.tmp 4]) E4) hP (r' := (.v (.bool false))) (.refl _) (.v _) hK
noncomputable def ref06_body_L0 (a0 : Node) (a1 : Expr) (f_ref06_body : Node → Expr → Option Bool) : Int → Option (Int ⊕ (Bool ⊕ Unit))
 | vi_9 =>
  if (decide (vi_9 < ((List.length a1.args : Nat) : Int))) then
   ((getI a1.args vi_9).bind fun y15 =>
   (f_ref06_body a0 y15).bind fun y17 =>
   if (!y17) then
    some (.inl false)
   else
    some (.inr ()) : Option (Bool ⊕ Unit)).bind fun x => match x with
   | .inl r => some (.inr (.inl r))
   | .inr _ =>
    some (.inl (IntKind.i64.wrap (vi_9 + (1 : Int))))
  else
   some (.inr (.inr ()))
noncomputable def B_ref06_body (f_ref06_body : Node → Expr → Option Bool) (f_ref06_param : Node → ByteArray → Option Bool) (a0 : Node) (a1 : Expr) : Option Bool :=
 (if (decide (a1.kind = (11 : Int))) then
  (f_ref06_param a0 a1.name).bind fun y1 =>
  some (!y1)
 else
  some false).bind fun w3 =>
 if ((decide (a1.kind = (11 : Int))) && w3) then
  some false
 else
  (iterO (ref06_body_L0 a0 a1 f_ref06_body) (0 : Int) : Option (Bool ⊕ Unit)).bind fun x => match x with
  | .inl r => some r
  | .inr _ =>
   some true
abbrev ref06_body_A0 (a0 : Node) : List PV := [(.v (.string a0.name)), (.sl (List.map C_s a0.params)), (.v (.int .i64 a0.budget)), (.v (.int .i64 a0.body.kind)), (.v (.string a0.body.name)), (.v (.int .i64 a0.body.n)), (.v (.int .i64 a0.body.d)), (.sl (Expr.rows a0.body.args)), (.v (.int .i64 a0.body.at_)), (.v (.int .i64 a0.at_))]
abbrev ref06_body_A1 (a1 : Expr) : List PV := [(.v (.int .i64 a1.kind)), (.v (.string a1.name)), (.v (.int .i64 a1.n)), (.v (.int .i64 a1.d)), (.sl (Expr.rows a1.args)), (.v (.int .i64 a1.at_))]
theorem W_ref06_body (f_ref06_body : Node → Expr → Option Bool) (f_ref06_param : Node → ByteArray → Option Bool) (S_ref06_body : Sat_ref06_body f_ref06_body) (S_ref06_param : Sat_ref06_param f_ref06_param) : Sat_ref06_body (B_ref06_body f_ref06_body f_ref06_param) := by
 intro a0 a1 r h σ K hK
 refine w_fp Try.func50 rfl rfl (by kernel_rfl) ?_
 unfold B_ref06_body at h
 have hP := Pre.refl σ
 have E0 : argE [(.ag (ref06_body_A0 a0)), (.ag (ref06_body_A1 a1))] 0 = (.ag (ref06_body_A0 a0)) := rfl
 have E1 : argE [(.ag (ref06_body_A0 a0)), (.ag (ref06_body_A1 a1))] 1 = (.ag (ref06_body_A1 a1)) := rfl
 have TT := cj8 Expr.rlen T_2 T_3 T_37 T_39 T_9 T_97 T_99
 refine w_sa (fun e s => ∃ i2 i3 : Nat, Bx σ s i2 99 (ref06_body_A0 a0) ∧ Bx σ s i3 39 (ref06_body_A1 a1) ∧ e 2 = (.pt i2 0) ∧ e 3 = (.pt i3 0) ∧ Pre σ s) ?_ fun e s hI => ?_
 ·refine w_x (cj3 E0 E1 TT) (k := ?_)
  exact cw_n ⟨_, WkE.refl _, σ.length, (σ ++ [some (AObj.box 99 (ref06_body_A0 a0))]).length, ((Bx.new hP 99 (ref06_body_A0 a0)).app [some (AObj.box 39 (ref06_body_A1 a1))]), (Bx.new (hP.app _) 39 (ref06_body_A1 a1)), (xv (cj3 E0 E1 TT)), (xv (cj3 E0 E1 TT)), ((hP.app _).app _)⟩
 obtain ⟨i2, i3, X2, X3, E2, E3, hP⟩ := hI
 refine w_assoc ?_
 obtain ⟨w3, h4, h⟩ := bnd_some h
 refine w_sa (fun e s => Bx σ s i2 99 (ref06_body_A0 a0) ∧ Bx σ s i3 39 (ref06_body_A1 a1) ∧ e 2 = (.pt i2 0) ∧ e 3 = (.pt i3 0) ∧ e 15 = (.v (.bool ((decide (a1.kind = (11 : Int))) && w3))) ∧ Pre σ s) ?_ fun e s hI => ?_
 ·cases hb5 : (decide (a1.kind = (11 : Int)))
  ·replace h4 := ite_f (by simp only [hb5, Bool.or_true, Bool.true_or, Bool.or_false, Bool.false_or, Bool.and_true, Bool.true_and, Bool.and_false, Bool.false_and, Bool.not_true, Bool.not_false, cond_true, cond_false]) h4
   obtain rfl := some_inj h4
   refine w_x (cj6 E2 E3 X2.get X3.get hb5 TT) (k := ?_)
   have q1 := cj6 E2 E3 X2.get X3.get hb5 TT
   exact cw_n ⟨_, WkE.refl _, X2, X3, (xv q1), (xv q1), (xv q1), hP⟩
  ·replace h4 := ite_t (by simp only [hb5, Bool.or_true, Bool.true_or, Bool.or_false, Bool.false_or, Bool.and_true, Bool.true_and, Bool.and_false, Bool.false_and, Bool.not_true, Bool.not_false, cond_true, cond_false]) h4
   obtain ⟨y1, h2, h4⟩ := bnd_some h4
   obtain rfl := some_inj h4
   refine w_x (cj6 E2 E3 X2.get X3.get hb5 TT) (k := ?_)
   refine EC.wka (.cons (.refl _) (.cons (.refl _) .nil)) (S_ref06_param _ _ _ h2 _ _  ?_)
   refine w_y (cj6 E2 E3 X2.get X3.get hb5 TT) (k := ?_)
   have q2 := cj6 E2 E3 X2.get X3.get hb5 TT
   exact cw_n ⟨_, WkE.refl _, X2, X3, (xv q2), (xv q2), (xv q2), hP⟩
 obtain ⟨X2, X3, E2, E3, E15, hP⟩ := hI
 refine w_seq ?_
 rcases ite_some h with ⟨hb6, h⟩ | ⟨hb6, h⟩
 ·refine xt (cj4 E2 E3 E15 hb6) ?_
  refine w_sa (fun e s => e 4 = (.v (.bool false)) ∧ Pre σ s) ?_ fun e s hI => ?_
  ·refine w_x (cj6 E2 E3 E15 X2.get X3.get TT) (k := ?_)
   exact cw_n ⟨_, WkE.refl _, (xv (cj6 E2 E3 E15 X2.get X3.get TT)), hP⟩
  obtain ⟨E4, hP⟩ := hI
  refine w_ret ?_
  refine w_sqr ?_
  obtain rfl := some_inj h
  exact w_fin (fun _ => rfl) (xr (rs := #[.tmp 4]) E4) hP (r' := (.v (.bool false))) (.refl _) (.v _) hK
 ·refine xf (cj4 E2 E3 E15 hb6) ?_
  refine w_skip ?_
  refine w_sq ?_
  refine w_assoc ?_
  refine w_sa (fun e s => Bx σ s i2 99 (ref06_body_A0 a0) ∧ Bx σ s i3 39 (ref06_body_A1 a1) ∧ e 2 = (.pt i2 0) ∧ e 3 = (.pt i3 0) ∧ e 5 = (.v (.int .i64 (0 : Int))) ∧ Pre σ s) ?_ fun e s hI => ?_
  ·refine w_x (cj6 E2 E3 E15 X2.get X3.get TT) (k := ?_)
   have q3 := cj6 E2 E3 E15 X2.get X3.get TT
   exact cw_n ⟨_, WkE.refl _, X2, X3, (xv q3), (xv q3), (xv q3), hP⟩
  obtain ⟨X2, X3, E2, E3, E5, hP⟩ := hI
  obtain ⟨x7, h8, h⟩ := bnd_some h
  refine w_sa (fun e s => .inr () = x7 ∧ Pre σ s) ?_ fun e s hI => ?_
  ·refine w_block ?_
   refine w_iter h8 (fun v e s => ∃ vi_9 : Int, vi_9 = v ∧ Bx σ s i2 99 (ref06_body_A0 a0) ∧ Bx σ s i3 39 (ref06_body_A1 a1) ∧ e 2 = (.pt i2 0) ∧ e 3 = (.pt i3 0) ∧ e 5 = (.v (.int .i64 vi_9)) ∧ Pre σ s) ⟨_, WkE.refl _, _, rfl, X2, X3, (xv (cj3 E2 E3 E5)), (xv (cj3 E2 E3 E5)), (xv (cj3 E2 E3 E5)), hP⟩ fun v x10 e s hf11 hI => ?_
   obtain ⟨vi_9, rfl, X2, X3, E2, E3, E5, hP⟩ := hI
   unfold ref06_body_L0 at hf11
   try dsimp only at hf11
   refine w_assoc ?_
   refine w_sa (fun e s => Bx σ s i2 99 (ref06_body_A0 a0) ∧ Bx σ s i3 39 (ref06_body_A1 a1) ∧ e 2 = (.pt i2 0) ∧ e 3 = (.pt i3 0) ∧ e 5 = (.v (.int .i64 vi_9)) ∧ e 20 = (.v (.bool (decide (vi_9 < ((List.length a1.args : Nat) : Int))))) ∧ Pre σ s) ?_ fun e s hI => ?_
   ·refine w_x (cj6 E2 E3 E5 X2.get X3.get TT) (k := ?_)
    have q4 := cj6 E2 E3 E5 X2.get X3.get TT
    exact cw_n ⟨_, WkE.refl _, X2, X3, (xv q4), (xv q4), (xv q4), (xv q4), hP⟩
   obtain ⟨X2, X3, E2, E3, E5, E20, hP⟩ := hI
   refine w_seq ?_
   rcases ite_some hf11 with ⟨hb12, hf11⟩ | ⟨hb12, hf11⟩
   ·refine xt (cj5 E2 E3 E5 E20 hb12) ?_
    refine w_skip ?_
    refine w_sq ?_
    obtain ⟨x13, h14, hf11⟩ := bnd_some hf11
    refine w_sa (fun e s => .inr () = x13 ∧ Bx σ s i2 99 (ref06_body_A0 a0) ∧ Bx σ s i3 39 (ref06_body_A1 a1) ∧ e 2 = (.pt i2 0) ∧ e 3 = (.pt i3 0) ∧ e 5 = (.v (.int .i64 vi_9)) ∧ Pre σ s) ?_ fun e s hI => ?_
    ·refine w_block ?_
     obtain ⟨y15, h16, h14⟩ := bnd_some h14
     obtain ⟨y17, h18, h14⟩ := bnd_some h14
     refine w_sa (fun e s => Bx σ s i2 99 (ref06_body_A0 a0) ∧ Bx σ s i3 39 (ref06_body_A1 a1) ∧ e 2 = (.pt i2 0) ∧ e 3 = (.pt i3 0) ∧ e 5 = (.v (.int .i64 vi_9)) ∧ e 30 = (.v (.bool (!y17))) ∧ Pre σ s) ?_ fun e s hI => ?_
     ·have R19 : (Expr.rows a1.args)[(vi_9).toNat]? = some [(.v (.int .i64 y15.kind)), (.v (.string y15.name)), (.v (.int .i64 y15.n)), (.v (.int .i64 y15.d)), (.sl (Expr.rows y15.args)), (.v (.int .i64 y15.at_))] := Expr.rget (getI_some h16).2
      refine w_xd 6 0 (cj9 E2 E3 E5 E20 X2.get X3.get R19 (getI_some h16).1 TT) (hk := ?_)
      refine w_xs (cj9 E2 E3 E5 E20 X2.get X3.get R19 (getI_some h16).1 TT) (k := ?_)
      refine EC.wka (.cons (.refl _) (.cons (.refl _) .nil)) (S_ref06_body _ _ _ h18 _ _  ?_)
      refine w_y (cj9 E2 E3 E5 E20 X2.get X3.get R19 (getI_some h16).1 TT) (k := ?_)
      have q5 := cj9 E2 E3 E5 E20 X2.get X3.get R19 (getI_some h16).1 TT
      exact cw_n ⟨_, WkE.refl _, X2, X3, (xv q5), (xv q5), (xv q5), (xv q5), hP⟩
     obtain ⟨X2, X3, E2, E3, E5, E30, hP⟩ := hI
     rcases ite_some h14 with ⟨hb20, h14⟩ | ⟨hb20, h14⟩
     ·refine xt (cj5 E2 E3 E5 E30 hb20) ?_
      refine w_sa (fun e s => e 4 = (.v (.bool false)) ∧ Pre σ s) ?_ fun e s hI => ?_
      ·refine w_x (cj7 E2 E3 E5 E30 X2.get X3.get TT) (k := ?_)
       exact cw_n ⟨_, WkE.refl _, (xv (cj7 E2 E3 E5 E30 X2.get X3.get TT)), hP⟩
      obtain ⟨E4, hP⟩ := hI
      refine w_ret ?_
      refine w_bkr ?_
      obtain rfl := some_inj h14
      refine cw_r ?_
      try dsimp only at hf11
      obtain rfl := some_inj hf11
      refine iq_r rfl fun hr21 => ?_
      obtain rfl := hr21
      refine w_bkr ?_
      refine cw_r ?_
      try dsimp only at h
      obtain rfl := some_inj h
      exact w_fin (fun _ => rfl) (xr (rs := #[.tmp 4]) E4) hP (r' := (.v (.bool false))) (.refl _) (.v _) hK
     ·refine xf (cj5 E2 E3 E5 E30 hb20) ?_
      refine w_skip ?_
      refine w_bk ?_
      obtain rfl := some_inj h14
      have q6 := cj4 E2 E3 E5 E30
      exact cw_n ⟨_, WkE.refl _, rfl, X2, X3, (xv q6), (xv q6), (xv q6), hP⟩
    obtain ⟨rfl, X2, X3, E2, E3, E5, hP⟩ := hI
    try dsimp only at hf11
    refine w_x (cj6 E2 E3 E5 X2.get X3.get TT) (k := ?_)
    obtain rfl := some_inj hf11
    have q7 := cj6 E2 E3 E5 X2.get X3.get TT
    exact iq_n rfl ⟨_, WkE.refl _, _, rfl, X2, X3, (xv q7), (xv q7), (xv q7), hP⟩
   ·refine xf (cj5 E2 E3 E5 E20 hb12) ?_
    refine w_exit ?_
    refine w_sqx ?_
    obtain rfl := some_inj hf11
    refine iq_x rfl fun hr22 => ?_
    obtain rfl := hr22
    refine w_bkx ?_
    exact cw_n ⟨_, WkE.refl _, rfl, hP⟩
  obtain ⟨rfl, hP⟩ := hI
  try dsimp only at h
  refine w_sa (fun e s => e 4 = (.v (.bool true)) ∧ Pre σ s) ?_ fun e s hI => ?_
  ·refine w_x Expr.rlen (k := ?_)
   exact cw_n ⟨_, WkE.refl _, (xv Expr.rlen), hP⟩
  obtain ⟨E4, hP⟩ := hI
  refine w_ret ?_
  obtain rfl := some_inj h
  exact w_fin (fun _ => rfl) (xr (rs := #[.tmp 4]) E4) hP (r' := (.v (.bool true))) (.refl _) (.v _) hK
end Go.Proofs.Ytohmmfimedgccaa.E
end
