import Derived.Test.YtohmmfimedgccaaQF3
/- CheckFinds returns true at every input. PART 5 OF 8: G16 G53 G54 -/
section
namespace Go.Proofs.Ytohmmfimedgccaa.E
set_option maxRecDepth 100000
set_option maxHeartbeats 4000000
set_option linter.unusedVariables false
set_option linter.unusedSimpArgs false
noncomputable def check_Clocks_L4 (a0 : Program) (f_check_finder_fail_in_check_solver : check_solver → Int → Int → Option (Unit × check_solver)) (f_check_solver_of : check_solver → Expr → Option ((Clock × Bool) × check_solver)) : (Int × (Mp Clock) × check_solver) → Option ((Int × (Mp Clock) × check_solver) ⊕ ((Mp Clock) × check_solver))
 | (v90_102, v19_103, v21_104) =>
  if (decide (v90_102 < ((List.length a0.flows : Nat) : Int))) then
   ((getI a0.flows v90_102).bind fun y112 =>
   (f_check_solver_of (check_solver.mk v21_104.finder v19_103) y112.e).bind fun y115 =>
   (if (y115.1.2 && (!(decide (y115.1.1.period = ((Option.getD (Mp.get y115.2.known y112.name) (Clock.mk (0 : Int) (0 : Int))).period)) && (decide (y115.1.1.phase = ((Option.getD (Mp.get y115.2.known y112.name) (Clock.mk (0 : Int) (0 : Int))).phase)))))) then
    (f_check_finder_fail_in_check_solver (check_solver.mk y115.2.finder y115.2.known) y112.at_ (5 : Int)).bind fun y124 =>
    some (y124.2.known, (check_solver.mk y124.2.finder y124.2.known))
   else
    some (y115.2.known, (check_solver.mk y115.2.finder y115.2.known)) : Option ((Mp Clock) × check_solver)).bind fun (v19_121, v21_122) =>
   some (v19_121, (check_solver.mk v21_122.finder v19_121)) : Option ((Mp Clock) × check_solver)).bind fun (v19_110, v21_111) =>
   some (.inl ((IntKind.i64.wrap (v90_102 + (1 : Int))), v19_110, (check_solver.mk v21_111.finder v19_110)))
  else
   some (.inr (v19_103, (check_solver.mk v21_104.finder v19_103)))
noncomputable def check_Clocks_L3 (a0 : Program) (f_check_solver_calls : check_solver → Expr → Option (Unit × check_solver)) : (Int × (Mp Clock) × check_solver) → Option ((Int × (Mp Clock) × check_solver) ⊕ ((Mp Clock) × check_solver))
 | (v78_82, v19_83, v21_84) =>
  if (decide (v78_82 < ((List.length a0.flows : Nat) : Int))) then
   ((getI a0.flows v78_82).bind fun y92 =>
   (f_check_solver_calls (check_solver.mk v21_84.finder v19_83) y92.e).bind fun y95 =>
   some (y95.2.known, (check_solver.mk y95.2.finder y95.2.known)) : Option ((Mp Clock) × check_solver)).bind fun (v19_90, v21_91) =>
   some (.inl ((IntKind.i64.wrap (v78_82 + (1 : Int))), v19_90, (check_solver.mk v21_91.finder v19_90)))
  else
   some (.inr (v19_83, (check_solver.mk v21_84.finder v19_83)))
noncomputable def check_Clocks_L2 (a0 : Program) (f_check_finder_fail_in_check_solver : check_solver → Int → Int → Option (Unit × check_solver)) : ((List Clock) × Int × (Mp Clock) × check_solver) → Option (((List Clock) × Int × (Mp Clock) × check_solver) ⊕ ((List Clock) × (Mp Clock) × check_solver))
 | (v8_40, v48_41, v19_42, v21_43) =>
  if (decide (v48_41 < ((List.length a0.flows : Nat) : Int))) then
   ((getI a0.flows v48_41).bind fun y52 =>
   (if (!(Option.isSome (Mp.get v19_42 y52.name))) then
    (f_check_finder_fail_in_check_solver (check_solver.mk v21_43.finder v19_42) y52.at_ (6 : Int)).bind fun y61 =>
    some (y61.2.known, (check_solver.mk y61.2.finder y61.2.known))
   else
    some (v19_42, (check_solver.mk v21_43.finder v19_42)) : Option ((Mp Clock) × check_solver)).bind fun (v19_58, v21_59) =>
   (appO 16 v8_40 ([(Option.getD (Mp.get v19_42 y52.name) (Clock.mk (0 : Int) (0 : Int)))])).bind fun y63 =>
   some (y63, v19_58, (check_solver.mk v21_59.finder v19_58)) : Option ((List Clock) × (Mp Clock) × check_solver)).bind fun (v8_49, v19_50, v21_51) =>
   some (.inl (v8_49, (IntKind.i64.wrap (v48_41 + (1 : Int))), v19_50, (check_solver.mk v21_51.finder v19_50)))
  else
   some (.inr (v8_40, v19_42, (check_solver.mk v21_43.finder v19_42)))
noncomputable def check_Clocks_L1 (a0 : Program) (f_check_solver_round : check_solver → (List Flow) → Option (Bool × check_solver)) : ((Mp Clock) × check_solver) → Option (((Mp Clock) × check_solver) ⊕ ((Mp Clock) × check_solver))
 | (v19_25, v21_26) =>
  (f_check_solver_round (check_solver.mk v21_26.finder v19_25) a0.flows).bind fun y29 =>
  if y29.1 then
   (some () : Option Unit).bind fun _ =>
   some (.inl (y29.2.known, (check_solver.mk y29.2.finder y29.2.known)))
  else
   some (.inr (y29.2.known, (check_solver.mk y29.2.finder y29.2.known)))
noncomputable def check_Clocks_L0 (a0 : Program) : (Int × (Mp Clock) × check_solver) → Option ((Int × (Mp Clock) × check_solver) ⊕ ((Mp Clock) × check_solver))
 | (v25_5, v19_6, v21_7) =>
  if (decide (v25_5 < ((List.length a0.inputs : Nat) : Int))) then
   ((getI a0.inputs v25_5).bind fun y15 =>
   (putO v19_6 y15.name (Clock.mk y15.period y15.phase)).bind fun y18 =>
   some (y18, (check_solver.mk v21_7.finder y18)) : Option ((Mp Clock) × check_solver)).bind fun (v19_13, v21_14) =>
   some (.inl ((IntKind.i64.wrap (v25_5 + (1 : Int))), v19_13, (check_solver.mk v21_14.finder v19_13)))
  else
   some (.inr (v19_6, (check_solver.mk v21_7.finder v19_6)))
noncomputable def B_check_Clocks (f_check_solver_round : check_solver → (List Flow) → Option (Bool × check_solver)) (f_check_solver_calls : check_solver → Expr → Option (Unit × check_solver)) (f_check_solver_of : check_solver → Expr → Option ((Clock × Bool) × check_solver)) (f_check_finder_fail_in_check_solver : check_solver → Int → Int → Option (Unit × check_solver)) (a0 : Program) : Option ((List Clock) × Int × Int) :=
 (iterO (check_Clocks_L0 a0) ((0 : Int), (Mp.emp : Mp Clock), (check_solver.mk (check_finder.mk (0 : Int) (0 : Int)) (Mp.emp : Mp Clock))) : Option ((Mp Clock) × check_solver)).bind fun (v19_3, v21_4) =>
 (iterO (check_Clocks_L1 a0 f_check_solver_round) (v19_3, (check_solver.mk v21_4.finder v19_3)) : Option ((Mp Clock) × check_solver)).bind fun (v19_23, v21_24) =>
 (iterO (check_Clocks_L2 a0 f_check_finder_fail_in_check_solver) ([], (0 : Int), v19_23, (check_solver.mk v21_24.finder v19_23)) : Option ((List Clock) × (Mp Clock) × check_solver)).bind fun (v8_37, v19_38, v21_39) =>
 (iterO (check_Clocks_L3 a0 f_check_solver_calls) ((0 : Int), v19_38, (check_solver.mk v21_39.finder v19_38)) : Option ((Mp Clock) × check_solver)).bind fun (v19_80, v21_81) =>
 (iterO (check_Clocks_L4 a0 f_check_finder_fail_in_check_solver f_check_solver_of) ((0 : Int), v19_80, (check_solver.mk v21_81.finder v19_80)) : Option ((Mp Clock) × check_solver)).bind fun (v19_100, v21_101) =>
 if (!decide (v21_101.finder.e = (0 : Int))) then
  some ([], v21_101.finder.at_, v21_101.finder.e)
 else
  some (v8_37, (0 : Int), (0 : Int))
abbrev check_Clocks_V0 : Clock → PV := fun v : Clock => (PV.ag [(.v (.int .i64 v.period)), (.v (.int .i64 v.phase))])
abbrev check_Clocks_A0 (a0 : Program) : List PV := [(.sl (List.map Node.cl a0.nodes)), (.sl (List.map Input.cl a0.inputs)), (.sl (List.map Flow.cl a0.flows)), (.sl (List.map Output.cl a0.outputs))]
theorem W_check_Clocks (f_check_solver_round : check_solver → (List Flow) → Option (Bool × check_solver)) (f_check_solver_calls : check_solver → Expr → Option (Unit × check_solver)) (f_check_solver_of : check_solver → Expr → Option ((Clock × Bool) × check_solver)) (f_check_finder_fail_in_check_solver : check_solver → Int → Int → Option (Unit × check_solver)) (S_check_solver_round : Sat_check_solver_round f_check_solver_round) (S_check_solver_calls : Sat_check_solver_calls f_check_solver_calls) (S_check_solver_of : Sat_check_solver_of f_check_solver_of) (S_check_finder_fail_in_check_solver : Sat_check_finder_fail_in_check_solver f_check_finder_fail_in_check_solver) : Sat_check_Clocks (B_check_Clocks f_check_solver_round f_check_solver_calls f_check_solver_of f_check_finder_fail_in_check_solver) := by
 intro a0 r h σ K hK
 refine w_fp Try.func16 rfl rfl (by kernel_rfl) ?_
 unfold B_check_Clocks at h
 have hP := Pre.refl σ
 have E0 : argE [(.ag (check_Clocks_A0 a0))] 0 = (.ag (check_Clocks_A0 a0)) := rfl
 have TT := cj20 Expr.rlen T_106 T_120 T_121 T_123 T_2 T_22 T_23 T_24 T_25 T_27 T_3 T_30 T_33 T_37 T_39 T_41 T_43 T_9 T_96
 refine w_sa (fun e s => ∃ i1 : Nat, Bx σ s i1 27 (check_Clocks_A0 a0) ∧ e 1 = (.pt i1 0) ∧ Pre σ s) ?_ fun e s hI => ?_
 ·refine w_x (cj2 E0 TT) (k := ?_)
  exact cw_n ⟨_, WkE.refl _, σ.length, (Bx.new hP 27 (check_Clocks_A0 a0)), (xv (cj2 E0 TT)), (hP.app _)⟩
 obtain ⟨i1, X1, E1, hP⟩ := hI
 refine w_sa (fun e s => ∃ i19 i21 : Nat, Bx σ s i1 27 (check_Clocks_A0 a0) ∧ Gx s i19 (AObj.map .s (mpF check_Clocks_V0 (Mp.get (Mp.emp : Mp Clock))) (Mp.n (Mp.emp : Mp Clock))) ∧ σ.length ≤ i19 ∧ Bx σ s i21 123 [(.v (.int .i64 (0 : Int))), (.v (.int .i64 (0 : Int))), (.mp i19)] ∧ e 1 = (.pt i1 0) ∧ e 5 = (.pt i21 0) ∧ i1 ≠ i21 ∧ Pre σ s) ?_ fun e s hI => ?_
 ·refine w_x (cj5 E1 X1.get X1.any X1.any2 TT) (k := ?_)
  have q1 := cj5 E1 X1.get X1.any X1.any2 TT
  exact cw_n ⟨_, WkE.refl _, s.length, (s ++ [some (AObj.map .s (fun _ => none) 0)]).length, ((X1.app [some (AObj.map .s (fun _ => none) 0)]).app [some (AObj.box 123 [(.v (.int .i64 (0 : Int))), (.v (.int .i64 (0 : Int))), (.mp s.length)])]), ((Gx.cast (Gx.new s (AObj.map .s (fun _ => none) 0)) (mpF_emp check_Clocks_V0)).app [some (AObj.box 123 [(.v (.int .i64 (0 : Int))), (.v (.int .i64 (0 : Int))), (.mp s.length)])]), (Pre.le hP), (Bx.new (hP.app [some (AObj.map .s (fun _ => none) 0)]) 123 [(.v (.int .i64 (0 : Int))), (.v (.int .i64 (0 : Int))), (.mp s.length)]), (xv q1), (xv q1), (Nat.ne_of_lt (X1.app [some (AObj.map .s (fun _ => none) 0)]).lt), ((hP.app [some (AObj.map .s (fun _ => none) 0)]).app _)⟩
 obtain ⟨i19, i21, X1, X19, L19, X21, E1, E5, N1__21, hP⟩ := hI
 refine w_assoc ?_
 refine w_sa (fun e s => Bx σ s i1 27 (check_Clocks_A0 a0) ∧ Gx s i19 (AObj.map .s (mpF check_Clocks_V0 (Mp.get (Mp.emp : Mp Clock))) (Mp.n (Mp.emp : Mp Clock))) ∧ σ.length ≤ i19 ∧ Bx σ s i21 123 [(.v (.int .i64 (0 : Int))), (.v (.int .i64 (0 : Int))), (.mp i19)] ∧ e 1 = (.pt i1 0) ∧ e 5 = (.pt i21 0) ∧ e 23 = (.sl (List.map Input.cl a0.inputs)) ∧ e 24 = (.v (.int .i64 ((List.length a0.inputs : Nat) : Int))) ∧ e 25 = (.v (.int .i64 (0 : Int))) ∧ i1 ≠ i21 ∧ Pre σ s) ?_ fun e s hI => ?_
 ·refine w_x (cj6 E1 E5 X1.get X19.get X21.get TT) (k := ?_)
  have q2 := cj6 E1 E5 X1.get X19.get X21.get TT
  exact cw_n ⟨_, WkE.refl _, X1, X19, L19, X21, (xv q2), (xv q2), (xv q2), (xv q2), (xv q2), N1__21, hP⟩
 obtain ⟨X1, X19, L19, X21, E1, E5, E23, E24, E25, N1__21, hP⟩ := hI
 obtain ⟨x1, h2, h⟩ := bnd_some h
 refine w_sa (fun e s => ∃ v19_3 : (Mp Clock), ∃ v21_4 : check_solver, (v19_3, v21_4) = x1 ∧ Bx σ s i1 27 (check_Clocks_A0 a0) ∧ Gx s i19 (AObj.map .s (mpF check_Clocks_V0 (Mp.get v19_3)) (Mp.n v19_3)) ∧ σ.length ≤ i19 ∧ Bx σ s i21 123 [(.v (.int .i64 v21_4.finder.at_)), (.v (.int .i64 v21_4.finder.e)), (.mp i19)] ∧ e 1 = (.pt i1 0) ∧ e 5 = (.pt i21 0) ∧ i1 ≠ i21 ∧ Pre σ s) ?_ fun e s hI => ?_
 ·refine w_block ?_
  have q3 := cj5 E1 E5 E23 E24 E25
  refine w_iter h2 (fun v e s => ∃ v25_5 : Int, ∃ v19_6 : (Mp Clock), ∃ v21_7 : check_solver, (v25_5, v19_6, v21_7) = v ∧ Bx σ s i1 27 (check_Clocks_A0 a0) ∧ Gx s i19 (AObj.map .s (mpF check_Clocks_V0 (Mp.get v19_6)) (Mp.n v19_6)) ∧ σ.length ≤ i19 ∧ Bx σ s i21 123 [(.v (.int .i64 v21_7.finder.at_)), (.v (.int .i64 v21_7.finder.e)), (.mp i19)] ∧ e 1 = (.pt i1 0) ∧ e 5 = (.pt i21 0) ∧ e 23 = (.sl (List.map Input.cl a0.inputs)) ∧ e 24 = (.v (.int .i64 ((List.length a0.inputs : Nat) : Int))) ∧ e 25 = (.v (.int .i64 v25_5)) ∧ i1 ≠ i21 ∧ Pre σ s) ⟨_, WkE.refl _, _, _, _, rfl, X1, X19, L19, X21, (xv q3), (xv q3), (xv q3), (xv q3), (xv q3), N1__21, hP⟩ fun v x8 e s hf9 hI => ?_
  obtain ⟨v25_5, v19_6, v21_7, rfl, X1, X19, L19, X21, E1, E5, E23, E24, E25, N1__21, hP⟩ := hI
  unfold check_Clocks_L0 at hf9
  try dsimp only at hf9
  refine w_sa (fun e s => Bx σ s i1 27 (check_Clocks_A0 a0) ∧ Gx s i19 (AObj.map .s (mpF check_Clocks_V0 (Mp.get v19_6)) (Mp.n v19_6)) ∧ σ.length ≤ i19 ∧ Bx σ s i21 123 [(.v (.int .i64 v21_7.finder.at_)), (.v (.int .i64 v21_7.finder.e)), (.mp i19)] ∧ e 1 = (.pt i1 0) ∧ e 5 = (.pt i21 0) ∧ e 23 = (.sl (List.map Input.cl a0.inputs)) ∧ e 24 = (.v (.int .i64 ((List.length a0.inputs : Nat) : Int))) ∧ e 25 = (.v (.int .i64 v25_5)) ∧ e 26 = (.v (.bool (decide (v25_5 < ((List.length a0.inputs : Nat) : Int))))) ∧ i1 ≠ i21 ∧ Pre σ s) ?_ fun e s hI => ?_
  ·refine w_x (cj9 E1 E5 E23 E24 E25 X1.get X19.get X21.get TT) (k := ?_)
   have q4 := cj9 E1 E5 E23 E24 E25 X1.get X19.get X21.get TT
   exact cw_n ⟨_, WkE.refl _, X1, X19, L19, X21, (xv q4), (xv q4), (xv q4), (xv q4), (xv q4), (xv q4), N1__21, hP⟩
  obtain ⟨X1, X19, L19, X21, E1, E5, E23, E24, E25, E26, N1__21, hP⟩ := hI
  refine w_seq ?_
  rcases ite_some hf9 with ⟨hb10, hf9⟩ | ⟨hb10, hf9⟩
  ·refine xt (cj7 E1 E5 E23 E24 E25 E26 hb10) ?_
   refine w_skip ?_
   refine w_sq ?_
   obtain ⟨x11, h12, hf9⟩ := bnd_some hf9
   refine w_sa (fun e s => ∃ v19_13 : (Mp Clock), ∃ v21_14 : check_solver, (v19_13, v21_14) = x11 ∧ Bx σ s i1 27 (check_Clocks_A0 a0) ∧ Gx s i19 (AObj.map .s (mpF check_Clocks_V0 (Mp.get v19_13)) (Mp.n v19_13)) ∧ σ.length ≤ i19 ∧ Bx σ s i21 123 [(.v (.int .i64 v21_14.finder.at_)), (.v (.int .i64 v21_14.finder.e)), (.mp i19)] ∧ e 1 = (.pt i1 0) ∧ e 5 = (.pt i21 0) ∧ e 23 = (.sl (List.map Input.cl a0.inputs)) ∧ e 24 = (.v (.int .i64 ((List.length a0.inputs : Nat) : Int))) ∧ e 25 = (.v (.int .i64 v25_5)) ∧ i1 ≠ i21 ∧ Pre σ s) ?_ fun e s hI => ?_
   ·refine w_block ?_
    obtain ⟨y15, h16, h12⟩ := bnd_some h12
    refine w_sa (fun e s => ∃ i7 : Nat, Bx σ s i1 27 (check_Clocks_A0 a0) ∧ Gx s i19 (AObj.map .s (mpF check_Clocks_V0 (Mp.get v19_6)) (Mp.n v19_6)) ∧ σ.length ≤ i19 ∧ Bx σ s i21 123 [(.v (.int .i64 v21_7.finder.at_)), (.v (.int .i64 v21_7.finder.e)), (.mp i19)] ∧ Bx σ s i7 96 [(.v (.string y15.name)), (.v (.int .i64 y15.period)), (.v (.int .i64 y15.phase)), (.v (.int .i64 y15.at_))] ∧ e 1 = (.pt i1 0) ∧ e 5 = (.pt i21 0) ∧ e 7 = (.pt i7 0) ∧ e 23 = (.sl (List.map Input.cl a0.inputs)) ∧ e 24 = (.v (.int .i64 ((List.length a0.inputs : Nat) : Int))) ∧ e 25 = (.v (.int .i64 v25_5)) ∧ i1 ≠ i21 ∧ i21 ≠ i7 ∧ Pre σ s) ?_ fun e s hI => ?_
    ·have R17 : (List.map Input.cl a0.inputs)[(v25_5).toNat]? = some [(.v (.string y15.name)), (.v (.int .i64 y15.period)), (.v (.int .i64 y15.phase)), (.v (.int .i64 y15.at_))] := map_get (getI_some h16).2
     refine w_x (cj18 E1 E5 E23 E24 E25 E26 X1.get X1.any X1.any2 X19.get X19.any X19.any2 X21.get X21.any X21.any2 R17 (getI_some h16).1 TT) (k := ?_)
     have q5 := cj18 E1 E5 E23 E24 E25 E26 X1.get X1.any X1.any2 X19.get X19.any X19.any2 X21.get X21.any X21.any2 R17 (getI_some h16).1 TT
     exact cw_n ⟨_, WkE.refl _, s.length, (X1.app [some (AObj.box 96 [(.v (.string y15.name)), (.v (.int .i64 y15.period)), (.v (.int .i64 y15.phase)), (.v (.int .i64 y15.at_))])]), (X19.app [some (AObj.box 96 [(.v (.string y15.name)), (.v (.int .i64 y15.period)), (.v (.int .i64 y15.phase)), (.v (.int .i64 y15.at_))])]), L19, (X21.app [some (AObj.box 96 [(.v (.string y15.name)), (.v (.int .i64 y15.period)), (.v (.int .i64 y15.phase)), (.v (.int .i64 y15.at_))])]), (Bx.new hP 96 [(.v (.string y15.name)), (.v (.int .i64 y15.period)), (.v (.int .i64 y15.phase)), (.v (.int .i64 y15.at_))]), (xv q5), (xv q5), (xv q5), (xv q5), (xv q5), (xv q5), N1__21, (Nat.ne_of_lt X21.lt), (hP.app _)⟩
    obtain ⟨i7, X1, X19, L19, X21, X7, E1, E5, E7, E23, E24, E25, N1__21, N21__7, hP⟩ := hI
    obtain ⟨y18, h19, h12⟩ := bnd_some h12
    refine w_xd 11 0 (cj16 E1 E5 E7 E23 E24 E25 X1.get X19.get X21.get X7.get (putO_some h19).1 (X1.ne (Gx.apart X19 X1.gx (by intro h; cases h)) (some (AObj.map .s (upm (mpF check_Clocks_V0 (Mp.get v19_6)) (.string y15.name) (.ag [(.v (.int .i64 y15.period)), (.v (.int .i64 y15.phase))])) (Mp.n v19_6 + 1)))).get (Gx.cast (Gx.same X19 (AObj.map .s (upm (mpF check_Clocks_V0 (Mp.get v19_6)) (.string y15.name) (.ag [(.v (.int .i64 y15.period)), (.v (.int .i64 y15.phase))])) (Mp.n v19_6 + 1))) (mpF_put (f := check_Clocks_V0) h19)).get (X21.ne (Gx.apart X19 X21.gx (by intro h; cases h)) (some (AObj.map .s (upm (mpF check_Clocks_V0 (Mp.get v19_6)) (.string y15.name) (.ag [(.v (.int .i64 y15.period)), (.v (.int .i64 y15.phase))])) (Mp.n v19_6 + 1)))).get (X7.ne (Gx.apart X19 X7.gx (by intro h; cases h)) (some (AObj.map .s (upm (mpF check_Clocks_V0 (Mp.get v19_6)) (.string y15.name) (.ag [(.v (.int .i64 y15.period)), (.v (.int .i64 y15.phase))])) (Mp.n v19_6 + 1)))).get TT) (hk := ?_)
    refine w_xs (cj16 E1 E5 E7 E23 E24 E25 X1.get X19.get X21.get X7.get (putO_some h19).1 (X1.ne (Gx.apart X19 X1.gx (by intro h; cases h)) (some (AObj.map .s (upm (mpF check_Clocks_V0 (Mp.get v19_6)) (.string y15.name) (.ag [(.v (.int .i64 y15.period)), (.v (.int .i64 y15.phase))])) (Mp.n v19_6 + 1)))).get (Gx.cast (Gx.same X19 (AObj.map .s (upm (mpF check_Clocks_V0 (Mp.get v19_6)) (.string y15.name) (.ag [(.v (.int .i64 y15.period)), (.v (.int .i64 y15.phase))])) (Mp.n v19_6 + 1))) (mpF_put (f := check_Clocks_V0) h19)).get (X21.ne (Gx.apart X19 X21.gx (by intro h; cases h)) (some (AObj.map .s (upm (mpF check_Clocks_V0 (Mp.get v19_6)) (.string y15.name) (.ag [(.v (.int .i64 y15.period)), (.v (.int .i64 y15.phase))])) (Mp.n v19_6 + 1)))).get (X7.ne (Gx.apart X19 X7.gx (by intro h; cases h)) (some (AObj.map .s (upm (mpF check_Clocks_V0 (Mp.get v19_6)) (.string y15.name) (.ag [(.v (.int .i64 y15.period)), (.v (.int .i64 y15.phase))])) (Mp.n v19_6 + 1)))).get TT) (k := ?_)
    refine w_bk ?_
    obtain rfl := some_inj h12
    have q6 := Gx.apart X19 X1.gx (by intro h; cases h)
    have q7 := Gx.apart X19 X7.gx (by intro h; cases h)
    have q8 := Gx.apart X19 X21.gx (by intro h; cases h)
    have q9 := Gx.same X19 (AObj.map .s (upm (mpF check_Clocks_V0 (Mp.get v19_6)) (.string y15.name) (.ag [(.v (.int .i64 y15.period)), (.v (.int .i64 y15.phase))])) (Mp.n v19_6 + 1))
    have q10 := Gx.cast q9 (mpF_put (f := check_Clocks_V0) h19)
    have q11 := X1.ne q6 (some (AObj.map .s (upm (mpF check_Clocks_V0 (Mp.get v19_6)) (.string y15.name) (.ag [(.v (.int .i64 y15.period)), (.v (.int .i64 y15.phase))])) (Mp.n v19_6 + 1)))
    have q12 := X7.ne q7 (some (AObj.map .s (upm (mpF check_Clocks_V0 (Mp.get v19_6)) (.string y15.name) (.ag [(.v (.int .i64 y15.period)), (.v (.int .i64 y15.phase))])) (Mp.n v19_6 + 1)))
    have q13 := X21.ne q8 (some (AObj.map .s (upm (mpF check_Clocks_V0 (Mp.get v19_6)) (.string y15.name) (.ag [(.v (.int .i64 y15.period)), (.v (.int .i64 y15.phase))])) (Mp.n v19_6 + 1)))
    have q14 := cj16 E1 E5 E7 E23 E24 E25 X1.get X19.get X21.get X7.get (putO_some h19).1 q11.get q10.get q13.get q12.get TT
    exact cw_n ⟨_, WkE.refl _, _, _, rfl, q11, q10, L19, q13, (xv q14), (xv q14), (xv q14), (xv q14), (xv q14), N1__21, (hP.set L19 (some (AObj.map .s (upm (mpF check_Clocks_V0 (Mp.get v19_6)) (.string y15.name) (.ag [(.v (.int .i64 y15.period)), (.v (.int .i64 y15.phase))])) (Mp.n v19_6 + 1))))⟩
   obtain ⟨v19_13, v21_14, rfl, X1, X19, L19, X21, E1, E5, E23, E24, E25, N1__21, hP⟩ := hI
   try dsimp only at hf9
   refine w_x (cj9 E1 E5 E23 E24 E25 X1.get X19.get X21.get TT) (k := ?_)
   obtain rfl := some_inj hf9
   have q15 := cj9 E1 E5 E23 E24 E25 X1.get X19.get X21.get TT
   exact iq_n rfl ⟨_, WkE.refl _, _, _, _, rfl, X1, X19, L19, X21, (xv q15), (xv q15), (xv q15), (xv q15), (xv q15), N1__21, hP⟩
  ·refine xf (cj7 E1 E5 E23 E24 E25 E26 hb10) ?_
   refine w_exit ?_
   refine w_sqx ?_
   obtain rfl := some_inj hf9
   refine iq_x rfl fun hr20 => ?_
   obtain rfl := hr20
   refine w_bkx ?_
   exact cw_n ⟨_, WkE.refl _, _, _, rfl, X1, X19, L19, X21, (xv (cj6 E1 E5 E23 E24 E25 E26)), (xv (cj6 E1 E5 E23 E24 E25 E26)), N1__21, hP⟩
 obtain ⟨v19_3, v21_4, rfl, X1, X19, L19, X21, E1, E5, N1__21, hP⟩ := hI
 try dsimp only at h
 obtain ⟨x21, h22, h⟩ := bnd_some h
 refine w_sa (fun e s => ∃ v19_23 : (Mp Clock), ∃ v21_24 : check_solver, (v19_23, v21_24) = x21 ∧ Bx σ s i1 27 (check_Clocks_A0 a0) ∧ Gx s i19 (AObj.map .s (mpF check_Clocks_V0 (Mp.get v19_23)) (Mp.n v19_23)) ∧ σ.length ≤ i19 ∧ Bx σ s i21 123 [(.v (.int .i64 v21_24.finder.at_)), (.v (.int .i64 v21_24.finder.e)), (.mp i19)] ∧ e 1 = (.pt i1 0) ∧ e 5 = (.pt i21 0) ∧ i1 ≠ i21 ∧ Pre σ s) ?_ fun e s hI => ?_
 ·refine w_block ?_
  refine w_iter h22 (fun v e s => ∃ v19_25 : (Mp Clock), ∃ v21_26 : check_solver, (v19_25, v21_26) = v ∧ Bx σ s i1 27 (check_Clocks_A0 a0) ∧ Gx s i19 (AObj.map .s (mpF check_Clocks_V0 (Mp.get v19_25)) (Mp.n v19_25)) ∧ σ.length ≤ i19 ∧ Bx σ s i21 123 [(.v (.int .i64 v21_26.finder.at_)), (.v (.int .i64 v21_26.finder.e)), (.mp i19)] ∧ e 1 = (.pt i1 0) ∧ e 5 = (.pt i21 0) ∧ i1 ≠ i21 ∧ Pre σ s) ⟨_, WkE.refl _, _, _, rfl, X1, X19, L19, X21, (xv (cj2 E1 E5)), (xv (cj2 E1 E5)), N1__21, hP⟩ fun v x27 e s hf28 hI => ?_
  obtain ⟨v19_25, v21_26, rfl, X1, X19, L19, X21, E1, E5, N1__21, hP⟩ := hI
  unfold check_Clocks_L1 at hf28
  try dsimp only at hf28
  refine w_assoc ?_
  obtain ⟨y29, h30, hf28⟩ := bnd_some hf28
  refine w_sa (fun e s => Bx σ s i1 27 (check_Clocks_A0 a0) ∧ Gx s i19 (AObj.map .s (mpF check_Clocks_V0 (Mp.get y29.2.known)) (Mp.n y29.2.known)) ∧ σ.length ≤ i19 ∧ Bx σ s i21 123 [(.v (.int .i64 y29.2.finder.at_)), (.v (.int .i64 y29.2.finder.e)), (.mp i19)] ∧ e 1 = (.pt i1 0) ∧ e 5 = (.pt i21 0) ∧ e 44 = (.v (.bool y29.1)) ∧ i1 ≠ i21 ∧ Pre σ s) ?_ fun e s hI => ?_
  ·have q16 := Gx.apart X21.gx X19 (by intro h; cases h)
   have q17 := X21.same 123 [(.v (.int .i64 y29.2.finder.at_)), (.v (.int .i64 y29.2.finder.e)), (.mp i19)]
   have q18 := X19.ne q16 (some (AObj.box 123 [(.v (.int .i64 y29.2.finder.at_)), (.v (.int .i64 y29.2.finder.e)), (.mp i19)]))
   have q19 := X1.ne (Ne.symm N1__21) (some (AObj.box 123 [(.v (.int .i64 y29.2.finder.at_)), (.v (.int .i64 y29.2.finder.e)), (.mp i19)]))
   refine w_x (cj12 E1 E5 X1.get X19.get X21.get q19.get q18.get q17.get (q19.ne (Gx.apart q18 q19.gx (by intro h; cases h)) (some (AObj.map .s (mpF check_Clocks_V0 (Mp.get y29.2.known)) (Mp.n y29.2.known)))).get (Gx.same q18 (AObj.map .s (mpF check_Clocks_V0 (Mp.get y29.2.known)) (Mp.n y29.2.known))).get (q17.ne (Gx.apart q18 q17.gx (by intro h; cases h)) (some (AObj.map .s (mpF check_Clocks_V0 (Mp.get y29.2.known)) (Mp.n y29.2.known)))).get TT) (k := ?_)
   refine EC.wka (.cons (.refl _) (.cons (.refl _) .nil)) (S_check_solver_round _ _ _ h30 _ _ _ _ X21.gx X19 ?_)
   have q20 := Gx.apart X21.gx X19 (by intro h; cases h)
   have q21 := X21.same 123 [(.v (.int .i64 y29.2.finder.at_)), (.v (.int .i64 y29.2.finder.e)), (.mp i19)]
   have q22 := X19.ne q20 (some (AObj.box 123 [(.v (.int .i64 y29.2.finder.at_)), (.v (.int .i64 y29.2.finder.e)), (.mp i19)]))
   have q23 := X1.ne (Ne.symm N1__21) (some (AObj.box 123 [(.v (.int .i64 y29.2.finder.at_)), (.v (.int .i64 y29.2.finder.e)), (.mp i19)]))
   refine w_y (cj12 E1 E5 X1.get X19.get X21.get q23.get q22.get q21.get (q23.ne (Gx.apart q22 q23.gx (by intro h; cases h)) (some (AObj.map .s (mpF check_Clocks_V0 (Mp.get y29.2.known)) (Mp.n y29.2.known)))).get (Gx.same q22 (AObj.map .s (mpF check_Clocks_V0 (Mp.get y29.2.known)) (Mp.n y29.2.known))).get (q21.ne (Gx.apart q22 q21.gx (by intro h; cases h)) (some (AObj.map .s (mpF check_Clocks_V0 (Mp.get y29.2.known)) (Mp.n y29.2.known)))).get TT) (k := ?_)
   have q24 := Gx.apart X21.gx X19 (by intro h; cases h)
   have q25 := X21.same 123 [(.v (.int .i64 y29.2.finder.at_)), (.v (.int .i64 y29.2.finder.e)), (.mp i19)]
   have q26 := X19.ne q24 (some (AObj.box 123 [(.v (.int .i64 y29.2.finder.at_)), (.v (.int .i64 y29.2.finder.e)), (.mp i19)]))
   have q27 := Gx.apart q26 q25.gx (by intro h; cases h)
   have q28 := X1.ne (Ne.symm N1__21) (some (AObj.box 123 [(.v (.int .i64 y29.2.finder.at_)), (.v (.int .i64 y29.2.finder.e)), (.mp i19)]))
   have q29 := Gx.apart q26 q28.gx (by intro h; cases h)
   have q30 := Gx.same q26 (AObj.map .s (mpF check_Clocks_V0 (Mp.get y29.2.known)) (Mp.n y29.2.known))
   have q31 := cj12 E1 E5 X1.get X19.get X21.get q28.get q26.get q25.get (q28.ne q29 (some (AObj.map .s (mpF check_Clocks_V0 (Mp.get y29.2.known)) (Mp.n y29.2.known)))).get q30.get (q25.ne q27 (some (AObj.map .s (mpF check_Clocks_V0 (Mp.get y29.2.known)) (Mp.n y29.2.known)))).get TT
   exact cw_n ⟨_, WkE.refl _, (q28.ne q29 (some (AObj.map .s (mpF check_Clocks_V0 (Mp.get y29.2.known)) (Mp.n y29.2.known)))), q30, L19, (q25.ne q27 (some (AObj.map .s (mpF check_Clocks_V0 (Mp.get y29.2.known)) (Mp.n y29.2.known)))), (xv q31), (xv q31), (xv q31), N1__21, ((hP.set X21.le (some (AObj.box 123 [(.v (.int .i64 y29.2.finder.at_)), (.v (.int .i64 y29.2.finder.e)), (.mp i19)]))).set L19 (some (AObj.map .s (mpF check_Clocks_V0 (Mp.get y29.2.known)) (Mp.n y29.2.known))))⟩
  obtain ⟨X1, X19, L19, X21, E1, E5, E44, N1__21, hP⟩ := hI
  refine w_seq ?_
  rcases ite_some hf28 with ⟨hb31, hf28⟩ | ⟨hb31, hf28⟩
  ·refine xt (cj4 E1 E5 E44 hb31) ?_
   refine w_skip ?_
   refine w_sq ?_
   obtain ⟨x32, h33, hf28⟩ := bnd_some hf28
   refine w_an (fun e s => () = x32 ∧ Bx σ s i1 27 (check_Clocks_A0 a0) ∧ Gx s i19 (AObj.map .s (mpF check_Clocks_V0 (Mp.get y29.2.known)) (Mp.n y29.2.known)) ∧ σ.length ≤ i19 ∧ Bx σ s i21 123 [(.v (.int .i64 y29.2.finder.at_)), (.v (.int .i64 y29.2.finder.e)), (.mp i19)] ∧ e 1 = (.pt i1 0) ∧ e 5 = (.pt i21 0) ∧ i1 ≠ i21 ∧ Pre σ s) ?_ fun e s hI => ?_
   ·refine w_block ?_
    refine w_exit ?_
    refine w_bkx ?_
    obtain rfl := some_inj h33
    exact ct_n ⟨rfl, X1, X19, L19, X21, (xv (cj3 E1 E5 E44)), (xv (cj3 E1 E5 E44)), N1__21, hP⟩
   obtain ⟨rfl, X1, X19, L19, X21, E1, E5, N1__21, hP⟩ := hI
   try dsimp only at hf28
   obtain rfl := some_inj hf28
   exact iq_n rfl ⟨_, WkE.refl _, _, _, rfl, X1, X19, L19, X21, (xv (cj2 E1 E5)), (xv (cj2 E1 E5)), N1__21, hP⟩
  ·refine xf (cj4 E1 E5 E44 hb31) ?_
   refine w_exit ?_
   refine w_sqx ?_
   obtain rfl := some_inj hf28
   refine iq_x rfl fun hr34 => ?_
   obtain rfl := hr34
   refine w_bkx ?_
   exact cw_n ⟨_, WkE.refl _, _, _, rfl, X1, X19, L19, X21, (xv (cj3 E1 E5 E44)), (xv (cj3 E1 E5 E44)), N1__21, hP⟩
 obtain ⟨v19_23, v21_24, rfl, X1, X19, L19, X21, E1, E5, N1__21, hP⟩ := hI
 try dsimp only at h
 refine w_sa (fun e s => ∃ p8 : PV, Bx σ s i1 27 (check_Clocks_A0 a0) ∧ Gx s i19 (AObj.map .s (mpF check_Clocks_V0 (Mp.get v19_23)) (Mp.n v19_23)) ∧ σ.length ≤ i19 ∧ Bx σ s i21 123 [(.v (.int .i64 v21_24.finder.at_)), (.v (.int .i64 v21_24.finder.e)), (.mp i19)] ∧ e 1 = (.pt i1 0) ∧ e 5 = (.pt i21 0) ∧ e 8 = p8 ∧ Acc σ s p8 43 2 (List.map Clock.cl ([])) ∧ i1 ≠ i21 ∧ Pre σ s) ?_ fun e s hI => ?_
 ·refine w_x (cj6 E1 E5 X1.get X19.get X21.get TT) (k := ?_)
  have q32 := cj6 E1 E5 X1.get X19.get X21.get TT
  exact cw_n ⟨_, WkE.refl _, (.v (.slice none 0 0)), X1, X19, L19, X21, (xv q32), (xv q32), (xv q32), (Acc.nil _ _ _ _), N1__21, hP⟩
 obtain ⟨p8, X1, X19, L19, X21, E1, E5, E8, A8, N1__21, hP⟩ := hI
 refine w_assoc ?_
 refine w_sa (fun e s => ∃ p8 : PV, Bx σ s i1 27 (check_Clocks_A0 a0) ∧ Gx s i19 (AObj.map .s (mpF check_Clocks_V0 (Mp.get v19_23)) (Mp.n v19_23)) ∧ σ.length ≤ i19 ∧ Bx σ s i21 123 [(.v (.int .i64 v21_24.finder.at_)), (.v (.int .i64 v21_24.finder.e)), (.mp i19)] ∧ e 1 = (.pt i1 0) ∧ e 5 = (.pt i21 0) ∧ e 8 = p8 ∧ Acc σ s p8 43 2 (List.map Clock.cl ([])) ∧ e 46 = (.sl (List.map Flow.cl a0.flows)) ∧ e 47 = (.v (.int .i64 ((List.length a0.flows : Nat) : Int))) ∧ e 48 = (.v (.int .i64 (0 : Int))) ∧ i1 ≠ i21 ∧ Pre σ s) ?_ fun e s hI => ?_
 ·refine w_x (cj8 E1 E5 E8 X1.get X19.get X21.get A8.rowsOf TT) (k := ?_)
  have q33 := cj8 E1 E5 E8 X1.get X19.get X21.get A8.rowsOf TT
  exact cw_n ⟨_, WkE.refl _, p8, X1, X19, L19, X21, (xv q33), (xv q33), (xv q33), A8, (xv q33), (xv q33), (xv q33), N1__21, hP⟩
 obtain ⟨p8, X1, X19, L19, X21, E1, E5, E8, A8, E46, E47, E48, N1__21, hP⟩ := hI
 obtain ⟨x35, h36, h⟩ := bnd_some h
 refine w_sa (fun e s => ∃ v8_37 : (List Clock), ∃ v19_38 : (Mp Clock), ∃ v21_39 : check_solver, ∃ p8 : PV, (v8_37, v19_38, v21_39) = x35 ∧ Bx σ s i1 27 (check_Clocks_A0 a0) ∧ Gx s i19 (AObj.map .s (mpF check_Clocks_V0 (Mp.get v19_38)) (Mp.n v19_38)) ∧ σ.length ≤ i19 ∧ Bx σ s i21 123 [(.v (.int .i64 v21_39.finder.at_)), (.v (.int .i64 v21_39.finder.e)), (.mp i19)] ∧ e 1 = (.pt i1 0) ∧ e 5 = (.pt i21 0) ∧ e 8 = p8 ∧ Acc σ s p8 43 2 (List.map Clock.cl v8_37) ∧ i1 ≠ i21 ∧ Pre σ s) ?_ fun e s hI => ?_
 ·refine w_block ?_
  have q34 := cj6 E1 E5 E8 E46 E47 E48
  refine w_iter h36 (fun v e s => ∃ v8_40 : (List Clock), ∃ v48_41 : Int, ∃ v19_42 : (Mp Clock), ∃ v21_43 : check_solver, ∃ p8 : PV, (v8_40, v48_41, v19_42, v21_43) = v ∧ Bx σ s i1 27 (check_Clocks_A0 a0) ∧ Gx s i19 (AObj.map .s (mpF check_Clocks_V0 (Mp.get v19_42)) (Mp.n v19_42)) ∧ σ.length ≤ i19 ∧ Bx σ s i21 123 [(.v (.int .i64 v21_43.finder.at_)), (.v (.int .i64 v21_43.finder.e)), (.mp i19)] ∧ e 1 = (.pt i1 0) ∧ e 5 = (.pt i21 0) ∧ e 8 = p8 ∧ Acc σ s p8 43 2 (List.map Clock.cl v8_40) ∧ e 46 = (.sl (List.map Flow.cl a0.flows)) ∧ e 47 = (.v (.int .i64 ((List.length a0.flows : Nat) : Int))) ∧ e 48 = (.v (.int .i64 v48_41)) ∧ i1 ≠ i21 ∧ Pre σ s) ⟨_, WkE.refl _, _, _, _, _, p8, rfl, X1, X19, L19, X21, (xv q34), (xv q34), (xv q34), A8, (xv q34), (xv q34), (xv q34), N1__21, hP⟩ fun v x44 e s hf45 hI => ?_
  obtain ⟨v8_40, v48_41, v19_42, v21_43, p8, rfl, X1, X19, L19, X21, E1, E5, E8, A8, E46, E47, E48, N1__21, hP⟩ := hI
  unfold check_Clocks_L2 at hf45
  try dsimp only at hf45
  refine w_sa (fun e s => ∃ p8 : PV, Bx σ s i1 27 (check_Clocks_A0 a0) ∧ Gx s i19 (AObj.map .s (mpF check_Clocks_V0 (Mp.get v19_42)) (Mp.n v19_42)) ∧ σ.length ≤ i19 ∧ Bx σ s i21 123 [(.v (.int .i64 v21_43.finder.at_)), (.v (.int .i64 v21_43.finder.e)), (.mp i19)] ∧ e 1 = (.pt i1 0) ∧ e 5 = (.pt i21 0) ∧ e 8 = p8 ∧ Acc σ s p8 43 2 (List.map Clock.cl v8_40) ∧ e 46 = (.sl (List.map Flow.cl a0.flows)) ∧ e 47 = (.v (.int .i64 ((List.length a0.flows : Nat) : Int))) ∧ e 48 = (.v (.int .i64 v48_41)) ∧ e 49 = (.v (.bool (decide (v48_41 < ((List.length a0.flows : Nat) : Int))))) ∧ i1 ≠ i21 ∧ Pre σ s) ?_ fun e s hI => ?_
  ·refine w_x (cj11 E1 E5 E8 E46 E47 E48 X1.get X19.get X21.get A8.rowsOf TT) (k := ?_)
   have q35 := cj11 E1 E5 E8 E46 E47 E48 X1.get X19.get X21.get A8.rowsOf TT
   exact cw_n ⟨_, WkE.refl _, p8, X1, X19, L19, X21, (xv q35), (xv q35), (xv q35), A8, (xv q35), (xv q35), (xv q35), (xv q35), N1__21, hP⟩
  obtain ⟨p8, X1, X19, L19, X21, E1, E5, E8, A8, E46, E47, E48, E49, N1__21, hP⟩ := hI
  refine w_seq ?_
  rcases ite_some hf45 with ⟨hb46, hf45⟩ | ⟨hb46, hf45⟩
  ·refine xt (cj8 E1 E5 E8 E46 E47 E48 E49 hb46) ?_
   refine w_skip ?_
   refine w_sq ?_
   obtain ⟨x47, h48, hf45⟩ := bnd_some hf45
   refine w_sa (fun e s => ∃ v8_49 : (List Clock), ∃ v19_50 : (Mp Clock), ∃ v21_51 : check_solver, ∃ p8 : PV, (v8_49, v19_50, v21_51) = x47 ∧ Bx σ s i1 27 (check_Clocks_A0 a0) ∧ Gx s i19 (AObj.map .s (mpF check_Clocks_V0 (Mp.get v19_50)) (Mp.n v19_50)) ∧ σ.length ≤ i19 ∧ Bx σ s i21 123 [(.v (.int .i64 v21_51.finder.at_)), (.v (.int .i64 v21_51.finder.e)), (.mp i19)] ∧ e 1 = (.pt i1 0) ∧ e 5 = (.pt i21 0) ∧ e 8 = p8 ∧ Acc σ s p8 43 2 (List.map Clock.cl v8_49) ∧ e 46 = (.sl (List.map Flow.cl a0.flows)) ∧ e 47 = (.v (.int .i64 ((List.length a0.flows : Nat) : Int))) ∧ e 48 = (.v (.int .i64 v48_41)) ∧ i1 ≠ i21 ∧ Pre σ s) ?_ fun e s hI => ?_
   ·refine w_block ?_
    obtain ⟨y52, h53, h48⟩ := bnd_some h48
    refine w_sa (fun e s => ∃ i10 : Nat, ∃ p8 : PV, Bx σ s i1 27 (check_Clocks_A0 a0) ∧ Bx σ s i10 41 [(.v (.string y52.name)), (.v (.int .i64 y52.e.kind)), (.v (.string y52.e.name)), (.v (.int .i64 y52.e.n)), (.v (.int .i64 y52.e.d)), (.sl (Expr.rows y52.e.args)), (.v (.int .i64 y52.e.at_)), (.v (.int .i64 y52.at_))] ∧ Gx s i19 (AObj.map .s (mpF check_Clocks_V0 (Mp.get v19_42)) (Mp.n v19_42)) ∧ σ.length ≤ i19 ∧ Bx σ s i21 123 [(.v (.int .i64 v21_43.finder.at_)), (.v (.int .i64 v21_43.finder.e)), (.mp i19)] ∧ e 1 = (.pt i1 0) ∧ e 5 = (.pt i21 0) ∧ e 8 = p8 ∧ Acc σ s p8 43 2 (List.map Clock.cl v8_40) ∧ e 10 = (.pt i10 0) ∧ e 46 = (.sl (List.map Flow.cl a0.flows)) ∧ e 47 = (.v (.int .i64 ((List.length a0.flows : Nat) : Int))) ∧ e 48 = (.v (.int .i64 v48_41)) ∧ i1 ≠ i21 ∧ i10 ≠ i21 ∧ Pre σ s) ?_ fun e s hI => ?_
    ·have R54 : (List.map Flow.cl a0.flows)[(v48_41).toNat]? = some [(.v (.string y52.name)), (.v (.int .i64 y52.e.kind)), (.v (.string y52.e.name)), (.v (.int .i64 y52.e.n)), (.v (.int .i64 y52.e.d)), (.sl (Expr.rows y52.e.args)), (.v (.int .i64 y52.e.at_)), (.v (.int .i64 y52.at_))] := map_get (getI_some h53).2
     refine w_x (cj20 E1 E5 E8 E46 E47 E48 E49 X1.get X1.any X1.any2 X19.get X19.any X19.any2 X21.get X21.any X21.any2 A8.rowsOf R54 (getI_some h53).1 TT) (k := ?_)
     have q36 := cj20 E1 E5 E8 E46 E47 E48 E49 X1.get X1.any X1.any2 X19.get X19.any X19.any2 X21.get X21.any X21.any2 A8.rowsOf R54 (getI_some h53).1 TT
     exact cw_n ⟨_, WkE.refl _, s.length, p8, (X1.app [some (AObj.box 41 [(.v (.string y52.name)), (.v (.int .i64 y52.e.kind)), (.v (.string y52.e.name)), (.v (.int .i64 y52.e.n)), (.v (.int .i64 y52.e.d)), (.sl (Expr.rows y52.e.args)), (.v (.int .i64 y52.e.at_)), (.v (.int .i64 y52.at_))])]), (Bx.new hP 41 [(.v (.string y52.name)), (.v (.int .i64 y52.e.kind)), (.v (.string y52.e.name)), (.v (.int .i64 y52.e.n)), (.v (.int .i64 y52.e.d)), (.sl (Expr.rows y52.e.args)), (.v (.int .i64 y52.e.at_)), (.v (.int .i64 y52.at_))]), (X19.app [some (AObj.box 41 [(.v (.string y52.name)), (.v (.int .i64 y52.e.kind)), (.v (.string y52.e.name)), (.v (.int .i64 y52.e.n)), (.v (.int .i64 y52.e.d)), (.sl (Expr.rows y52.e.args)), (.v (.int .i64 y52.e.at_)), (.v (.int .i64 y52.at_))])]), L19, (X21.app [some (AObj.box 41 [(.v (.string y52.name)), (.v (.int .i64 y52.e.kind)), (.v (.string y52.e.name)), (.v (.int .i64 y52.e.n)), (.v (.int .i64 y52.e.d)), (.sl (Expr.rows y52.e.args)), (.v (.int .i64 y52.e.at_)), (.v (.int .i64 y52.at_))])]), (xv q36), (xv q36), (xv q36), (A8.app [some (AObj.box 41 [(.v (.string y52.name)), (.v (.int .i64 y52.e.kind)), (.v (.string y52.e.name)), (.v (.int .i64 y52.e.n)), (.v (.int .i64 y52.e.d)), (.sl (Expr.rows y52.e.args)), (.v (.int .i64 y52.e.at_)), (.v (.int .i64 y52.at_))])]), (xv q36), (xv q36), (xv q36), (xv q36), N1__21, (Ne.symm (Nat.ne_of_lt X21.lt)), (hP.app _)⟩
    obtain ⟨i10, p8, X1, X10, X19, L19, X21, E1, E5, E8, A8, E10, E46, E47, E48, N1__21, N10__21, hP⟩ := hI
    refine w_sa (fun e s => ∃ i11 : Nat, ∃ p8 : PV, Bx σ s i1 27 (check_Clocks_A0 a0) ∧ Bx σ s i10 41 [(.v (.string y52.name)), (.v (.int .i64 y52.e.kind)), (.v (.string y52.e.name)), (.v (.int .i64 y52.e.n)), (.v (.int .i64 y52.e.d)), (.sl (Expr.rows y52.e.args)), (.v (.int .i64 y52.e.at_)), (.v (.int .i64 y52.at_))] ∧ Bx σ s i11 43 [(.v (.int .i64 ((Option.getD (Mp.get v19_42 y52.name) (Clock.mk (0 : Int) (0 : Int))).period))), (.v (.int .i64 ((Option.getD (Mp.get v19_42 y52.name) (Clock.mk (0 : Int) (0 : Int))).phase)))] ∧ Gx s i19 (AObj.map .s (mpF check_Clocks_V0 (Mp.get v19_42)) (Mp.n v19_42)) ∧ σ.length ≤ i19 ∧ Bx σ s i21 123 [(.v (.int .i64 v21_43.finder.at_)), (.v (.int .i64 v21_43.finder.e)), (.mp i19)] ∧ e 1 = (.pt i1 0) ∧ e 5 = (.pt i21 0) ∧ e 8 = p8 ∧ Acc σ s p8 43 2 (List.map Clock.cl v8_40) ∧ e 10 = (.pt i10 0) ∧ e 11 = (.pt i11 0) ∧ e 12 = (.v (.bool (Option.isSome (Mp.get v19_42 y52.name)))) ∧ e 46 = (.sl (List.map Flow.cl a0.flows)) ∧ e 47 = (.v (.int .i64 ((List.length a0.flows : Nat) : Int))) ∧ e 48 = (.v (.int .i64 v48_41)) ∧ i1 ≠ i21 ∧ i10 ≠ i21 ∧ i11 ≠ i21 ∧ Pre σ s) ?_ fun e s hI => ?_
    ·have R55 : Option.getD (Option.map check_Clocks_V0 (Mp.get v19_42 y52.name)) (.ag [(.v (.int .i64 (0 : Int))), (.v (.int .i64 (0 : Int)))]) = (.ag [(.v (.int .i64 ((Option.getD (Mp.get v19_42 y52.name) (Clock.mk (0 : Int) (0 : Int))).period))), (.v (.int .i64 ((Option.getD (Mp.get v19_42 y52.name) (Clock.mk (0 : Int) (0 : Int))).phase)))]) := by cases Mp.get v19_42 y52.name <;> rfl
     refine w_xd 12 1 (cj8 E1 E5 E8 E10 E46 E47 E48 (cj20 X1.get X1.any X1.any2 X10.get X10.any X10.any2 X19.get X19.any X19.any2 X21.get X21.any X21.any2 A8.rowsOf R55 (X1.app [some (AObj.box 43 [(.v (.int .i64 ((Option.getD (Mp.get v19_42 y52.name) (Clock.mk (0 : Int) (0 : Int))).period))), (.v (.int .i64 ((Option.getD (Mp.get v19_42 y52.name) (Clock.mk (0 : Int) (0 : Int))).phase)))])]).get (X10.app [some (AObj.box 43 [(.v (.int .i64 ((Option.getD (Mp.get v19_42 y52.name) (Clock.mk (0 : Int) (0 : Int))).period))), (.v (.int .i64 ((Option.getD (Mp.get v19_42 y52.name) (Clock.mk (0 : Int) (0 : Int))).phase)))])]).get (X19.app [some (AObj.box 43 [(.v (.int .i64 ((Option.getD (Mp.get v19_42 y52.name) (Clock.mk (0 : Int) (0 : Int))).period))), (.v (.int .i64 ((Option.getD (Mp.get v19_42 y52.name) (Clock.mk (0 : Int) (0 : Int))).phase)))])]).get (X21.app [some (AObj.box 43 [(.v (.int .i64 ((Option.getD (Mp.get v19_42 y52.name) (Clock.mk (0 : Int) (0 : Int))).period))), (.v (.int .i64 ((Option.getD (Mp.get v19_42 y52.name) (Clock.mk (0 : Int) (0 : Int))).phase)))])]).get (Bx.at hP (l := [some (AObj.box 43 [(.v (.int .i64 ((Option.getD (Mp.get v19_42 y52.name) (Clock.mk (0 : Int) (0 : Int))).period))), (.v (.int .i64 ((Option.getD (Mp.get v19_42 y52.name) (Clock.mk (0 : Int) (0 : Int))).phase)))])]) (j := 0) (t := 43) (c := [(.v (.int .i64 ((Option.getD (Mp.get v19_42 y52.name) (Clock.mk (0 : Int) (0 : Int))).period))), (.v (.int .i64 ((Option.getD (Mp.get v19_42 y52.name) (Clock.mk (0 : Int) (0 : Int))).phase)))]) rfl).get TT)) (hk := ?_)
     refine w_xs (cj8 E1 E5 E8 E10 E46 E47 E48 (cj20 X1.get X1.any X1.any2 X10.get X10.any X10.any2 X19.get X19.any X19.any2 X21.get X21.any X21.any2 A8.rowsOf R55 (X1.app [some (AObj.box 43 [(.v (.int .i64 ((Option.getD (Mp.get v19_42 y52.name) (Clock.mk (0 : Int) (0 : Int))).period))), (.v (.int .i64 ((Option.getD (Mp.get v19_42 y52.name) (Clock.mk (0 : Int) (0 : Int))).phase)))])]).get (X10.app [some (AObj.box 43 [(.v (.int .i64 ((Option.getD (Mp.get v19_42 y52.name) (Clock.mk (0 : Int) (0 : Int))).period))), (.v (.int .i64 ((Option.getD (Mp.get v19_42 y52.name) (Clock.mk (0 : Int) (0 : Int))).phase)))])]).get (X19.app [some (AObj.box 43 [(.v (.int .i64 ((Option.getD (Mp.get v19_42 y52.name) (Clock.mk (0 : Int) (0 : Int))).period))), (.v (.int .i64 ((Option.getD (Mp.get v19_42 y52.name) (Clock.mk (0 : Int) (0 : Int))).phase)))])]).get (X21.app [some (AObj.box 43 [(.v (.int .i64 ((Option.getD (Mp.get v19_42 y52.name) (Clock.mk (0 : Int) (0 : Int))).period))), (.v (.int .i64 ((Option.getD (Mp.get v19_42 y52.name) (Clock.mk (0 : Int) (0 : Int))).phase)))])]).get (Bx.at hP (l := [some (AObj.box 43 [(.v (.int .i64 ((Option.getD (Mp.get v19_42 y52.name) (Clock.mk (0 : Int) (0 : Int))).period))), (.v (.int .i64 ((Option.getD (Mp.get v19_42 y52.name) (Clock.mk (0 : Int) (0 : Int))).phase)))])]) (j := 0) (t := 43) (c := [(.v (.int .i64 ((Option.getD (Mp.get v19_42 y52.name) (Clock.mk (0 : Int) (0 : Int))).period))), (.v (.int .i64 ((Option.getD (Mp.get v19_42 y52.name) (Clock.mk (0 : Int) (0 : Int))).phase)))]) rfl).get TT)) (k := ?_)
     have q37 := X1.app [some (AObj.box 43 [(.v (.int .i64 ((Option.getD (Mp.get v19_42 y52.name) (Clock.mk (0 : Int) (0 : Int))).period))), (.v (.int .i64 ((Option.getD (Mp.get v19_42 y52.name) (Clock.mk (0 : Int) (0 : Int))).phase)))])]
     have q38 := X10.app [some (AObj.box 43 [(.v (.int .i64 ((Option.getD (Mp.get v19_42 y52.name) (Clock.mk (0 : Int) (0 : Int))).period))), (.v (.int .i64 ((Option.getD (Mp.get v19_42 y52.name) (Clock.mk (0 : Int) (0 : Int))).phase)))])]
     have q39 := X19.app [some (AObj.box 43 [(.v (.int .i64 ((Option.getD (Mp.get v19_42 y52.name) (Clock.mk (0 : Int) (0 : Int))).period))), (.v (.int .i64 ((Option.getD (Mp.get v19_42 y52.name) (Clock.mk (0 : Int) (0 : Int))).phase)))])]
     have q40 := X21.app [some (AObj.box 43 [(.v (.int .i64 ((Option.getD (Mp.get v19_42 y52.name) (Clock.mk (0 : Int) (0 : Int))).period))), (.v (.int .i64 ((Option.getD (Mp.get v19_42 y52.name) (Clock.mk (0 : Int) (0 : Int))).phase)))])]
     have q41 := Bx.at hP (l := [some (AObj.box 43 [(.v (.int .i64 ((Option.getD (Mp.get v19_42 y52.name) (Clock.mk (0 : Int) (0 : Int))).period))), (.v (.int .i64 ((Option.getD (Mp.get v19_42 y52.name) (Clock.mk (0 : Int) (0 : Int))).phase)))])]) (j := 0) (t := 43) (c := [(.v (.int .i64 ((Option.getD (Mp.get v19_42 y52.name) (Clock.mk (0 : Int) (0 : Int))).period))), (.v (.int .i64 ((Option.getD (Mp.get v19_42 y52.name) (Clock.mk (0 : Int) (0 : Int))).phase)))]) rfl
     have q42 := cj20 X1.get X1.any X1.any2 X10.get X10.any X10.any2 X19.get X19.any X19.any2 X21.get X21.any X21.any2 A8.rowsOf R55 q37.get q38.get q39.get q40.get q41.get TT
     have q43 := cj8 E1 E5 E8 E10 E46 E47 E48 q42
     exact cw_n ⟨_, WkE.refl _, (s.length), p8, q37, q38, q41, q39, L19, q40, (xv q43), (xv q43), (xv q43), (A8.app [some (AObj.box 43 [(.v (.int .i64 ((Option.getD (Mp.get v19_42 y52.name) (Clock.mk (0 : Int) (0 : Int))).period))), (.v (.int .i64 ((Option.getD (Mp.get v19_42 y52.name) (Clock.mk (0 : Int) (0 : Int))).phase)))])]), (xv q43), (xv q43), (xv q43), (xv q43), (xv q43), (xv q43), N1__21, N10__21, (Ne.symm (Nat.ne_of_lt X21.lt)), (hP.app [some (AObj.box 43 [(.v (.int .i64 ((Option.getD (Mp.get v19_42 y52.name) (Clock.mk (0 : Int) (0 : Int))).period))), (.v (.int .i64 ((Option.getD (Mp.get v19_42 y52.name) (Clock.mk (0 : Int) (0 : Int))).phase)))])])⟩
    obtain ⟨i11, p8, X1, X10, X11, X19, L19, X21, E1, E5, E8, A8, E10, E11, E12, E46, E47, E48, N1__21, N10__21, N11__21, hP⟩ := hI
    refine w_assoc ?_
    refine w_sa (fun e s => ∃ p8 : PV, Bx σ s i1 27 (check_Clocks_A0 a0) ∧ Bx σ s i10 41 [(.v (.string y52.name)), (.v (.int .i64 y52.e.kind)), (.v (.string y52.e.name)), (.v (.int .i64 y52.e.n)), (.v (.int .i64 y52.e.d)), (.sl (Expr.rows y52.e.args)), (.v (.int .i64 y52.e.at_)), (.v (.int .i64 y52.at_))] ∧ Bx σ s i11 43 [(.v (.int .i64 ((Option.getD (Mp.get v19_42 y52.name) (Clock.mk (0 : Int) (0 : Int))).period))), (.v (.int .i64 ((Option.getD (Mp.get v19_42 y52.name) (Clock.mk (0 : Int) (0 : Int))).phase)))] ∧ Gx s i19 (AObj.map .s (mpF check_Clocks_V0 (Mp.get v19_42)) (Mp.n v19_42)) ∧ σ.length ≤ i19 ∧ Bx σ s i21 123 [(.v (.int .i64 v21_43.finder.at_)), (.v (.int .i64 v21_43.finder.e)), (.mp i19)] ∧ e 1 = (.pt i1 0) ∧ e 5 = (.pt i21 0) ∧ e 8 = p8 ∧ Acc σ s p8 43 2 (List.map Clock.cl v8_40) ∧ e 10 = (.pt i10 0) ∧ e 11 = (.pt i11 0) ∧ e 46 = (.sl (List.map Flow.cl a0.flows)) ∧ e 47 = (.v (.int .i64 ((List.length a0.flows : Nat) : Int))) ∧ e 48 = (.v (.int .i64 v48_41)) ∧ e 63 = (.v (.bool (!(Option.isSome (Mp.get v19_42 y52.name))))) ∧ i1 ≠ i21 ∧ i10 ≠ i21 ∧ i11 ≠ i21 ∧ Pre σ s) ?_ fun e s hI => ?_
    ·refine w_x (cj16 E1 E5 E8 E10 E11 E12 E46 E47 E48 X1.get X10.get X11.get X19.get X21.get A8.rowsOf TT) (k := ?_)
     have q44 := cj16 E1 E5 E8 E10 E11 E12 E46 E47 E48 X1.get X10.get X11.get X19.get X21.get A8.rowsOf TT
     exact cw_n ⟨_, WkE.refl _, p8, X1, X10, X11, X19, L19, X21, (xv q44), (xv q44), (xv q44), A8, (xv q44), (xv q44), (xv q44), (xv q44), (xv q44), (xv q44), N1__21, N10__21, N11__21, hP⟩
    obtain ⟨p8, X1, X10, X11, X19, L19, X21, E1, E5, E8, A8, E10, E11, E46, E47, E48, E63, N1__21, N10__21, N11__21, hP⟩ := hI
    obtain ⟨x56, h57, h48⟩ := bnd_some h48
    refine w_sa (fun e s => ∃ v19_58 : (Mp Clock), ∃ v21_59 : check_solver, ∃ p8 : PV, (v19_58, v21_59) = x56 ∧ Bx σ s i1 27 (check_Clocks_A0 a0) ∧ Bx σ s i11 43 [(.v (.int .i64 ((Option.getD (Mp.get v19_42 y52.name) (Clock.mk (0 : Int) (0 : Int))).period))), (.v (.int .i64 ((Option.getD (Mp.get v19_42 y52.name) (Clock.mk (0 : Int) (0 : Int))).phase)))] ∧ Gx s i19 (AObj.map .s (mpF check_Clocks_V0 (Mp.get v19_58)) (Mp.n v19_58)) ∧ σ.length ≤ i19 ∧ Bx σ s i21 123 [(.v (.int .i64 v21_59.finder.at_)), (.v (.int .i64 v21_59.finder.e)), (.mp i19)] ∧ e 1 = (.pt i1 0) ∧ e 5 = (.pt i21 0) ∧ e 8 = p8 ∧ Acc σ s p8 43 2 (List.map Clock.cl v8_40) ∧ e 11 = (.pt i11 0) ∧ e 46 = (.sl (List.map Flow.cl a0.flows)) ∧ e 47 = (.v (.int .i64 ((List.length a0.flows : Nat) : Int))) ∧ e 48 = (.v (.int .i64 v48_41)) ∧ i1 ≠ i21 ∧ i11 ≠ i21 ∧ Pre σ s) ?_ fun e s hI => ?_
    ·rcases ite_some h57 with ⟨hb60, h57⟩ | ⟨hb60, h57⟩
     ·refine xt (cj10 E1 E5 E8 E10 E11 E46 E47 E48 E63 hb60) ?_
      obtain ⟨y61, h62, h57⟩ := bnd_some h57
      have q45 := Gx.apart X21.gx X19 (by intro h; cases h)
      have q46 := X21.same 123 [(.v (.int .i64 y61.2.finder.at_)), (.v (.int .i64 y61.2.finder.e)), (.mp i19)]
      have q47 := X19.ne q45 (some (AObj.box 123 [(.v (.int .i64 y61.2.finder.at_)), (.v (.int .i64 y61.2.finder.e)), (.mp i19)]))
      have q48 := X1.ne (Ne.symm N1__21) (some (AObj.box 123 [(.v (.int .i64 y61.2.finder.at_)), (.v (.int .i64 y61.2.finder.e)), (.mp i19)]))
      have q49 := X10.ne (Ne.symm N10__21) (some (AObj.box 123 [(.v (.int .i64 y61.2.finder.at_)), (.v (.int .i64 y61.2.finder.e)), (.mp i19)]))
      have q50 := X11.ne (Ne.symm N11__21) (some (AObj.box 123 [(.v (.int .i64 y61.2.finder.at_)), (.v (.int .i64 y61.2.finder.e)), (.mp i19)]))
      refine w_xd 5 0 (cj7 E1 E5 E8 E10 E11 E46 (cj20 E47 E48 E63 X1.get X10.get X11.get X19.get X21.get A8.rowsOf q48.get q49.get q50.get q47.get q46.get (q48.ne (Gx.apart q47 q48.gx (by intro h; cases h)) (some (AObj.map .s (mpF check_Clocks_V0 (Mp.get y61.2.known)) (Mp.n y61.2.known)))).get (q49.ne (Gx.apart q47 q49.gx (by intro h; cases h)) (some (AObj.map .s (mpF check_Clocks_V0 (Mp.get y61.2.known)) (Mp.n y61.2.known)))).get (q50.ne (Gx.apart q47 q50.gx (by intro h; cases h)) (some (AObj.map .s (mpF check_Clocks_V0 (Mp.get y61.2.known)) (Mp.n y61.2.known)))).get (Gx.same q47 (AObj.map .s (mpF check_Clocks_V0 (Mp.get y61.2.known)) (Mp.n y61.2.known))).get (q46.ne (Gx.apart q47 q46.gx (by intro h; cases h)) (some (AObj.map .s (mpF check_Clocks_V0 (Mp.get y61.2.known)) (Mp.n y61.2.known)))).get TT)) (hk := ?_)
      have q51 := Gx.apart X21.gx X19 (by intro h; cases h)
      have q52 := X21.same 123 [(.v (.int .i64 y61.2.finder.at_)), (.v (.int .i64 y61.2.finder.e)), (.mp i19)]
      have q53 := X19.ne q51 (some (AObj.box 123 [(.v (.int .i64 y61.2.finder.at_)), (.v (.int .i64 y61.2.finder.e)), (.mp i19)]))
      have q54 := X1.ne (Ne.symm N1__21) (some (AObj.box 123 [(.v (.int .i64 y61.2.finder.at_)), (.v (.int .i64 y61.2.finder.e)), (.mp i19)]))
      have q55 := X10.ne (Ne.symm N10__21) (some (AObj.box 123 [(.v (.int .i64 y61.2.finder.at_)), (.v (.int .i64 y61.2.finder.e)), (.mp i19)]))
      have q56 := X11.ne (Ne.symm N11__21) (some (AObj.box 123 [(.v (.int .i64 y61.2.finder.at_)), (.v (.int .i64 y61.2.finder.e)), (.mp i19)]))
      refine w_xs (cj7 E1 E5 E8 E10 E11 E46 (cj20 E47 E48 E63 X1.get X10.get X11.get X19.get X21.get A8.rowsOf q54.get q55.get q56.get q53.get q52.get (q54.ne (Gx.apart q53 q54.gx (by intro h; cases h)) (some (AObj.map .s (mpF check_Clocks_V0 (Mp.get y61.2.known)) (Mp.n y61.2.known)))).get (q55.ne (Gx.apart q53 q55.gx (by intro h; cases h)) (some (AObj.map .s (mpF check_Clocks_V0 (Mp.get y61.2.known)) (Mp.n y61.2.known)))).get (q56.ne (Gx.apart q53 q56.gx (by intro h; cases h)) (some (AObj.map .s (mpF check_Clocks_V0 (Mp.get y61.2.known)) (Mp.n y61.2.known)))).get (Gx.same q53 (AObj.map .s (mpF check_Clocks_V0 (Mp.get y61.2.known)) (Mp.n y61.2.known))).get (q52.ne (Gx.apart q53 q52.gx (by intro h; cases h)) (some (AObj.map .s (mpF check_Clocks_V0 (Mp.get y61.2.known)) (Mp.n y61.2.known)))).get TT)) (k := ?_)
      refine EC.wka (.cons (.refl _) (.cons (.refl _) (.cons (.refl _) .nil))) (S_check_finder_fail_in_check_solver _ _ _ _ h62 _ _ _ _ X21.gx X19 ?_)
      have q57 := Gx.apart X21.gx X19 (by intro h; cases h)
      have q58 := X21.same 123 [(.v (.int .i64 y61.2.finder.at_)), (.v (.int .i64 y61.2.finder.e)), (.mp i19)]
      have q59 := X19.ne q57 (some (AObj.box 123 [(.v (.int .i64 y61.2.finder.at_)), (.v (.int .i64 y61.2.finder.e)), (.mp i19)]))
      have q60 := X1.ne (Ne.symm N1__21) (some (AObj.box 123 [(.v (.int .i64 y61.2.finder.at_)), (.v (.int .i64 y61.2.finder.e)), (.mp i19)]))
      have q61 := X10.ne (Ne.symm N10__21) (some (AObj.box 123 [(.v (.int .i64 y61.2.finder.at_)), (.v (.int .i64 y61.2.finder.e)), (.mp i19)]))
      have q62 := X11.ne (Ne.symm N11__21) (some (AObj.box 123 [(.v (.int .i64 y61.2.finder.at_)), (.v (.int .i64 y61.2.finder.e)), (.mp i19)]))
      refine w_y (cj7 E1 E5 E8 E10 E11 E46 (cj20 E47 E48 E63 X1.get X10.get X11.get X19.get X21.get A8.rowsOf q60.get q61.get q62.get q59.get q58.get (q60.ne (Gx.apart q59 q60.gx (by intro h; cases h)) (some (AObj.map .s (mpF check_Clocks_V0 (Mp.get y61.2.known)) (Mp.n y61.2.known)))).get (q61.ne (Gx.apart q59 q61.gx (by intro h; cases h)) (some (AObj.map .s (mpF check_Clocks_V0 (Mp.get y61.2.known)) (Mp.n y61.2.known)))).get (q62.ne (Gx.apart q59 q62.gx (by intro h; cases h)) (some (AObj.map .s (mpF check_Clocks_V0 (Mp.get y61.2.known)) (Mp.n y61.2.known)))).get (Gx.same q59 (AObj.map .s (mpF check_Clocks_V0 (Mp.get y61.2.known)) (Mp.n y61.2.known))).get (q58.ne (Gx.apart q59 q58.gx (by intro h; cases h)) (some (AObj.map .s (mpF check_Clocks_V0 (Mp.get y61.2.known)) (Mp.n y61.2.known)))).get TT)) (k := ?_)
      obtain rfl := some_inj h57
      have q63 := Gx.apart X21.gx X19 (by intro h; cases h)
      have q64 := X21.same 123 [(.v (.int .i64 y61.2.finder.at_)), (.v (.int .i64 y61.2.finder.e)), (.mp i19)]
      have q65 := X19.ne q63 (some (AObj.box 123 [(.v (.int .i64 y61.2.finder.at_)), (.v (.int .i64 y61.2.finder.e)), (.mp i19)]))
      have q66 := Gx.apart q65 q64.gx (by intro h; cases h)
      have q67 := X1.ne (Ne.symm N1__21) (some (AObj.box 123 [(.v (.int .i64 y61.2.finder.at_)), (.v (.int .i64 y61.2.finder.e)), (.mp i19)]))
      have q68 := Gx.apart q65 q67.gx (by intro h; cases h)
      have q69 := X11.ne (Ne.symm N11__21) (some (AObj.box 123 [(.v (.int .i64 y61.2.finder.at_)), (.v (.int .i64 y61.2.finder.e)), (.mp i19)]))
      have q70 := Gx.apart q65 q69.gx (by intro h; cases h)
      have q71 := X10.ne (Ne.symm N10__21) (some (AObj.box 123 [(.v (.int .i64 y61.2.finder.at_)), (.v (.int .i64 y61.2.finder.e)), (.mp i19)]))
      have q72 := Gx.apart q65 q71.gx (by intro h; cases h)
      have q73 := Gx.same q65 (AObj.map .s (mpF check_Clocks_V0 (Mp.get y61.2.known)) (Mp.n y61.2.known))
      have q74 := cj20 E47 E48 E63 X1.get X10.get X11.get X19.get X21.get A8.rowsOf q67.get q71.get q69.get q65.get q64.get (q67.ne q68 (some (AObj.map .s (mpF check_Clocks_V0 (Mp.get y61.2.known)) (Mp.n y61.2.known)))).get (q71.ne q72 (some (AObj.map .s (mpF check_Clocks_V0 (Mp.get y61.2.known)) (Mp.n y61.2.known)))).get (q69.ne q70 (some (AObj.map .s (mpF check_Clocks_V0 (Mp.get y61.2.known)) (Mp.n y61.2.known)))).get q73.get (q64.ne q66 (some (AObj.map .s (mpF check_Clocks_V0 (Mp.get y61.2.known)) (Mp.n y61.2.known)))).get TT
      have q75 := cj7 E1 E5 E8 E10 E11 E46 q74
      exact cw_n ⟨_, WkE.refl _, _, _, p8, rfl, (q67.ne q68 (some (AObj.map .s (mpF check_Clocks_V0 (Mp.get y61.2.known)) (Mp.n y61.2.known)))), (q69.ne q70 (some (AObj.map .s (mpF check_Clocks_V0 (Mp.get y61.2.known)) (Mp.n y61.2.known)))), q73, L19, (q64.ne q66 (some (AObj.map .s (mpF check_Clocks_V0 (Mp.get y61.2.known)) (Mp.n y61.2.known)))), (xv q75), (xv q75), (xv q75), ((A8.setg X21.gx (by intro a b c h; cases h) (some (AObj.box 123 [(.v (.int .i64 y61.2.finder.at_)), (.v (.int .i64 y61.2.finder.e)), (.mp i19)]))).setg q65 (by intro a b c h; cases h) (some (AObj.map .s (mpF check_Clocks_V0 (Mp.get y61.2.known)) (Mp.n y61.2.known)))), (xv q75), (xv q75), (xv q75), (xv q75), N1__21, N11__21, ((hP.set X21.le (some (AObj.box 123 [(.v (.int .i64 y61.2.finder.at_)), (.v (.int .i64 y61.2.finder.e)), (.mp i19)]))).set L19 (some (AObj.map .s (mpF check_Clocks_V0 (Mp.get y61.2.known)) (Mp.n y61.2.known))))⟩
     ·refine xf (cj10 E1 E5 E8 E10 E11 E46 E47 E48 E63 hb60) ?_
      refine w_skip ?_
      obtain rfl := some_inj h57
      have q76 := cj9 E1 E5 E8 E10 E11 E46 E47 E48 E63
      exact cw_n ⟨_, WkE.refl _, _, _, p8, rfl, X1, X11, X19, L19, X21, (xv q76), (xv q76), (xv q76), A8, (xv q76), (xv q76), (xv q76), (xv q76), N1__21, N11__21, hP⟩
    obtain ⟨v19_58, v21_59, p8, rfl, X1, X11, X19, L19, X21, E1, E5, E8, A8, E11, E46, E47, E48, N1__21, N11__21, hP⟩ := hI
    try dsimp only at h48
    obtain ⟨y63, h64, h48⟩ := bnd_some h48
    obtain ⟨p68, s69, ha73, A700, hP74, K71, Q72, U75, V76⟩ := Acc.push (ns := [[(.v (.int .i64 ((Option.getD (Mp.get v19_42 y52.name) (Clock.mk (0 : Int) (0 : Int))).period))), (.v (.int .i64 ((Option.getD (Mp.get v19_42 y52.name) (Clock.mk (0 : Int) (0 : Int))).phase)))]]) (rows := (List.map Clock.cl v8_40)) T_33 T_43 A8 hP (map_len (f := Clock.cl) (n := 2) (fun _ => rfl) _) (by simp) (by simp) (by decide) (by simpa [Expr.rlen] using (appO_some h64).1)
    have ha73 := ha73 (.sl [[(.v (.int .i64 ((Option.getD (Mp.get v19_42 y52.name) (Clock.mk (0 : Int) (0 : Int))).period))), (.v (.int .i64 ((Option.getD (Mp.get v19_42 y52.name) (Clock.mk (0 : Int) (0 : Int))).phase)))]]) rfl
    have A70 : Acc σ s69 p68 43 2 (List.map Clock.cl y63) := by rw [← (appO_some h64).2]; exact by rw [List.map_append]; exact A700
    refine w_x (cj18 E1 E5 E8 E11 E46 E47 E48 X1.get X11.get X19.get X21.get A8.rowsOf ha73 (X1.keep A8 K71).get (X11.keep A8 K71).get (X19.keep (by intro a b c h; cases h) A8 K71).get (X21.keep A8 K71).get TT) (k := ?_)
    refine w_bk ?_
    obtain rfl := some_inj h48
    have q77 := X1.keep A8 K71
    have q78 := X21.keep A8 K71
    have q79 := X11.keep A8 K71
    have q80 := X19.keep (by intro a b c h; cases h) A8 K71
    have q81 := cj18 E1 E5 E8 E11 E46 E47 E48 X1.get X11.get X19.get X21.get A8.rowsOf ha73 q77.get q79.get q80.get q78.get TT
    exact cw_n ⟨_, WkE.refl _, _, _, _, p68, rfl, q77, q80, L19, q78, (xv q81), (xv q81), (xv q81), A70, (xv q81), (xv q81), (xv q81), N1__21, hP74⟩
   obtain ⟨v8_49, v19_50, v21_51, p8, rfl, X1, X19, L19, X21, E1, E5, E8, A8, E46, E47, E48, N1__21, hP⟩ := hI
   try dsimp only at hf45
   refine w_x (cj11 E1 E5 E8 E46 E47 E48 X1.get X19.get X21.get A8.rowsOf TT) (k := ?_)
   obtain rfl := some_inj hf45
   have q82 := cj11 E1 E5 E8 E46 E47 E48 X1.get X19.get X21.get A8.rowsOf TT
   exact iq_n rfl ⟨_, WkE.refl _, _, _, _, _, p8, rfl, X1, X19, L19, X21, (xv q82), (xv q82), (xv q82), A8, (xv q82), (xv q82), (xv q82), N1__21, hP⟩
  ·refine xf (cj8 E1 E5 E8 E46 E47 E48 E49 hb46) ?_
   refine w_exit ?_
   refine w_sqx ?_
   obtain rfl := some_inj hf45
   refine iq_x rfl fun hr77 => ?_
   obtain rfl := hr77
   refine w_bkx ?_
   have q83 := cj7 E1 E5 E8 E46 E47 E48 E49
   exact cw_n ⟨_, WkE.refl _, _, _, _, p8, rfl, X1, X19, L19, X21, (xv q83), (xv q83), (xv q83), A8, N1__21, hP⟩
 obtain ⟨v8_37, v19_38, v21_39, p8, rfl, X1, X19, L19, X21, E1, E5, E8, A8, N1__21, hP⟩ := hI
 try dsimp only at h
 refine w_assoc ?_
 refine w_sa (fun e s => ∃ p8 : PV, Bx σ s i1 27 (check_Clocks_A0 a0) ∧ Gx s i19 (AObj.map .s (mpF check_Clocks_V0 (Mp.get v19_38)) (Mp.n v19_38)) ∧ σ.length ≤ i19 ∧ Bx σ s i21 123 [(.v (.int .i64 v21_39.finder.at_)), (.v (.int .i64 v21_39.finder.e)), (.mp i19)] ∧ e 1 = (.pt i1 0) ∧ e 5 = (.pt i21 0) ∧ e 8 = p8 ∧ Acc σ s p8 43 2 (List.map Clock.cl v8_37) ∧ e 76 = (.sl (List.map Flow.cl a0.flows)) ∧ e 77 = (.v (.int .i64 ((List.length a0.flows : Nat) : Int))) ∧ e 78 = (.v (.int .i64 (0 : Int))) ∧ i1 ≠ i21 ∧ Pre σ s) ?_ fun e s hI => ?_
 ·refine w_x (cj8 E1 E5 E8 X1.get X19.get X21.get A8.rowsOf TT) (k := ?_)
  have q84 := cj8 E1 E5 E8 X1.get X19.get X21.get A8.rowsOf TT
  exact cw_n ⟨_, WkE.refl _, p8, X1, X19, L19, X21, (xv q84), (xv q84), (xv q84), A8, (xv q84), (xv q84), (xv q84), N1__21, hP⟩
 obtain ⟨p8, X1, X19, L19, X21, E1, E5, E8, A8, E76, E77, E78, N1__21, hP⟩ := hI
 obtain ⟨x78, h79, h⟩ := bnd_some h
 refine w_sa (fun e s => ∃ v19_80 : (Mp Clock), ∃ v21_81 : check_solver, ∃ p8 : PV, (v19_80, v21_81) = x78 ∧ Bx σ s i1 27 (check_Clocks_A0 a0) ∧ Gx s i19 (AObj.map .s (mpF check_Clocks_V0 (Mp.get v19_80)) (Mp.n v19_80)) ∧ σ.length ≤ i19 ∧ Bx σ s i21 123 [(.v (.int .i64 v21_81.finder.at_)), (.v (.int .i64 v21_81.finder.e)), (.mp i19)] ∧ e 1 = (.pt i1 0) ∧ e 5 = (.pt i21 0) ∧ e 8 = p8 ∧ Acc σ s p8 43 2 (List.map Clock.cl v8_37) ∧ i1 ≠ i21 ∧ Pre σ s) ?_ fun e s hI => ?_
 ·refine w_block ?_
  have q85 := cj6 E1 E5 E8 E76 E77 E78
  refine w_iter h79 (fun v e s => ∃ v78_82 : Int, ∃ v19_83 : (Mp Clock), ∃ v21_84 : check_solver, ∃ p8 : PV, (v78_82, v19_83, v21_84) = v ∧ Bx σ s i1 27 (check_Clocks_A0 a0) ∧ Gx s i19 (AObj.map .s (mpF check_Clocks_V0 (Mp.get v19_83)) (Mp.n v19_83)) ∧ σ.length ≤ i19 ∧ Bx σ s i21 123 [(.v (.int .i64 v21_84.finder.at_)), (.v (.int .i64 v21_84.finder.e)), (.mp i19)] ∧ e 1 = (.pt i1 0) ∧ e 5 = (.pt i21 0) ∧ e 8 = p8 ∧ Acc σ s p8 43 2 (List.map Clock.cl v8_37) ∧ e 76 = (.sl (List.map Flow.cl a0.flows)) ∧ e 77 = (.v (.int .i64 ((List.length a0.flows : Nat) : Int))) ∧ e 78 = (.v (.int .i64 v78_82)) ∧ i1 ≠ i21 ∧ Pre σ s) ⟨_, WkE.refl _, _, _, _, p8, rfl, X1, X19, L19, X21, (xv q85), (xv q85), (xv q85), A8, (xv q85), (xv q85), (xv q85), N1__21, hP⟩ fun v x85 e s hf86 hI => ?_
  obtain ⟨v78_82, v19_83, v21_84, p8, rfl, X1, X19, L19, X21, E1, E5, E8, A8, E76, E77, E78, N1__21, hP⟩ := hI
  unfold check_Clocks_L3 at hf86
  try dsimp only at hf86
  refine w_sa (fun e s => ∃ p8 : PV, Bx σ s i1 27 (check_Clocks_A0 a0) ∧ Gx s i19 (AObj.map .s (mpF check_Clocks_V0 (Mp.get v19_83)) (Mp.n v19_83)) ∧ σ.length ≤ i19 ∧ Bx σ s i21 123 [(.v (.int .i64 v21_84.finder.at_)), (.v (.int .i64 v21_84.finder.e)), (.mp i19)] ∧ e 1 = (.pt i1 0) ∧ e 5 = (.pt i21 0) ∧ e 8 = p8 ∧ Acc σ s p8 43 2 (List.map Clock.cl v8_37) ∧ e 76 = (.sl (List.map Flow.cl a0.flows)) ∧ e 77 = (.v (.int .i64 ((List.length a0.flows : Nat) : Int))) ∧ e 78 = (.v (.int .i64 v78_82)) ∧ e 79 = (.v (.bool (decide (v78_82 < ((List.length a0.flows : Nat) : Int))))) ∧ i1 ≠ i21 ∧ Pre σ s) ?_ fun e s hI => ?_
  ·refine w_x (cj11 E1 E5 E8 E76 E77 E78 X1.get X19.get X21.get A8.rowsOf TT) (k := ?_)
   have q86 := cj11 E1 E5 E8 E76 E77 E78 X1.get X19.get X21.get A8.rowsOf TT
   exact cw_n ⟨_, WkE.refl _, p8, X1, X19, L19, X21, (xv q86), (xv q86), (xv q86), A8, (xv q86), (xv q86), (xv q86), (xv q86), N1__21, hP⟩
  obtain ⟨p8, X1, X19, L19, X21, E1, E5, E8, A8, E76, E77, E78, E79, N1__21, hP⟩ := hI
  refine w_seq ?_
  rcases ite_some hf86 with ⟨hb87, hf86⟩ | ⟨hb87, hf86⟩
  ·refine xt (cj8 E1 E5 E8 E76 E77 E78 E79 hb87) ?_
   refine w_skip ?_
   refine w_sq ?_
   obtain ⟨x88, h89, hf86⟩ := bnd_some hf86
   refine w_sa (fun e s => ∃ v19_90 : (Mp Clock), ∃ v21_91 : check_solver, ∃ p8 : PV, (v19_90, v21_91) = x88 ∧ Bx σ s i1 27 (check_Clocks_A0 a0) ∧ Gx s i19 (AObj.map .s (mpF check_Clocks_V0 (Mp.get v19_90)) (Mp.n v19_90)) ∧ σ.length ≤ i19 ∧ Bx σ s i21 123 [(.v (.int .i64 v21_91.finder.at_)), (.v (.int .i64 v21_91.finder.e)), (.mp i19)] ∧ e 1 = (.pt i1 0) ∧ e 5 = (.pt i21 0) ∧ e 8 = p8 ∧ Acc σ s p8 43 2 (List.map Clock.cl v8_37) ∧ e 76 = (.sl (List.map Flow.cl a0.flows)) ∧ e 77 = (.v (.int .i64 ((List.length a0.flows : Nat) : Int))) ∧ e 78 = (.v (.int .i64 v78_82)) ∧ i1 ≠ i21 ∧ Pre σ s) ?_ fun e s hI => ?_
   ·refine w_block ?_
    obtain ⟨y92, h93, h89⟩ := bnd_some h89
    refine w_sa (fun e s => ∃ i14 : Nat, ∃ p8 : PV, Bx σ s i1 27 (check_Clocks_A0 a0) ∧ Bx σ s i14 41 [(.v (.string y92.name)), (.v (.int .i64 y92.e.kind)), (.v (.string y92.e.name)), (.v (.int .i64 y92.e.n)), (.v (.int .i64 y92.e.d)), (.sl (Expr.rows y92.e.args)), (.v (.int .i64 y92.e.at_)), (.v (.int .i64 y92.at_))] ∧ Gx s i19 (AObj.map .s (mpF check_Clocks_V0 (Mp.get v19_83)) (Mp.n v19_83)) ∧ σ.length ≤ i19 ∧ Bx σ s i21 123 [(.v (.int .i64 v21_84.finder.at_)), (.v (.int .i64 v21_84.finder.e)), (.mp i19)] ∧ e 1 = (.pt i1 0) ∧ e 5 = (.pt i21 0) ∧ e 8 = p8 ∧ Acc σ s p8 43 2 (List.map Clock.cl v8_37) ∧ e 14 = (.pt i14 0) ∧ e 76 = (.sl (List.map Flow.cl a0.flows)) ∧ e 77 = (.v (.int .i64 ((List.length a0.flows : Nat) : Int))) ∧ e 78 = (.v (.int .i64 v78_82)) ∧ i1 ≠ i21 ∧ i14 ≠ i21 ∧ Pre σ s) ?_ fun e s hI => ?_
    ·have R94 : (List.map Flow.cl a0.flows)[(v78_82).toNat]? = some [(.v (.string y92.name)), (.v (.int .i64 y92.e.kind)), (.v (.string y92.e.name)), (.v (.int .i64 y92.e.n)), (.v (.int .i64 y92.e.d)), (.sl (Expr.rows y92.e.args)), (.v (.int .i64 y92.e.at_)), (.v (.int .i64 y92.at_))] := map_get (getI_some h93).2
     refine w_x (cj20 E1 E5 E8 E76 E77 E78 E79 X1.get X1.any X1.any2 X19.get X19.any X19.any2 X21.get X21.any X21.any2 A8.rowsOf R94 (getI_some h93).1 TT) (k := ?_)
     have q87 := cj20 E1 E5 E8 E76 E77 E78 E79 X1.get X1.any X1.any2 X19.get X19.any X19.any2 X21.get X21.any X21.any2 A8.rowsOf R94 (getI_some h93).1 TT
     exact cw_n ⟨_, WkE.refl _, s.length, p8, (X1.app [some (AObj.box 41 [(.v (.string y92.name)), (.v (.int .i64 y92.e.kind)), (.v (.string y92.e.name)), (.v (.int .i64 y92.e.n)), (.v (.int .i64 y92.e.d)), (.sl (Expr.rows y92.e.args)), (.v (.int .i64 y92.e.at_)), (.v (.int .i64 y92.at_))])]), (Bx.new hP 41 [(.v (.string y92.name)), (.v (.int .i64 y92.e.kind)), (.v (.string y92.e.name)), (.v (.int .i64 y92.e.n)), (.v (.int .i64 y92.e.d)), (.sl (Expr.rows y92.e.args)), (.v (.int .i64 y92.e.at_)), (.v (.int .i64 y92.at_))]), (X19.app [some (AObj.box 41 [(.v (.string y92.name)), (.v (.int .i64 y92.e.kind)), (.v (.string y92.e.name)), (.v (.int .i64 y92.e.n)), (.v (.int .i64 y92.e.d)), (.sl (Expr.rows y92.e.args)), (.v (.int .i64 y92.e.at_)), (.v (.int .i64 y92.at_))])]), L19, (X21.app [some (AObj.box 41 [(.v (.string y92.name)), (.v (.int .i64 y92.e.kind)), (.v (.string y92.e.name)), (.v (.int .i64 y92.e.n)), (.v (.int .i64 y92.e.d)), (.sl (Expr.rows y92.e.args)), (.v (.int .i64 y92.e.at_)), (.v (.int .i64 y92.at_))])]), (xv q87), (xv q87), (xv q87), (A8.app [some (AObj.box 41 [(.v (.string y92.name)), (.v (.int .i64 y92.e.kind)), (.v (.string y92.e.name)), (.v (.int .i64 y92.e.n)), (.v (.int .i64 y92.e.d)), (.sl (Expr.rows y92.e.args)), (.v (.int .i64 y92.e.at_)), (.v (.int .i64 y92.at_))])]), (xv q87), (xv q87), (xv q87), (xv q87), N1__21, (Ne.symm (Nat.ne_of_lt X21.lt)), (hP.app _)⟩
    obtain ⟨i14, p8, X1, X14, X19, L19, X21, E1, E5, E8, A8, E14, E76, E77, E78, N1__21, N14__21, hP⟩ := hI
    obtain ⟨y95, h96, h89⟩ := bnd_some h89
    have q88 := Gx.apart X21.gx X19 (by intro h; cases h)
    have q89 := X21.same 123 [(.v (.int .i64 y95.2.finder.at_)), (.v (.int .i64 y95.2.finder.e)), (.mp i19)]
    have q90 := X19.ne q88 (some (AObj.box 123 [(.v (.int .i64 y95.2.finder.at_)), (.v (.int .i64 y95.2.finder.e)), (.mp i19)]))
    have q91 := X1.ne (Ne.symm N1__21) (some (AObj.box 123 [(.v (.int .i64 y95.2.finder.at_)), (.v (.int .i64 y95.2.finder.e)), (.mp i19)]))
    have q92 := X14.ne (Ne.symm N14__21) (some (AObj.box 123 [(.v (.int .i64 y95.2.finder.at_)), (.v (.int .i64 y95.2.finder.e)), (.mp i19)]))
    refine w_x (cj2 E1 (cj20 E5 E8 E14 E76 E77 E78 X1.get X14.get X19.get X21.get A8.rowsOf q91.get q92.get q90.get q89.get (q91.ne (Gx.apart q90 q91.gx (by intro h; cases h)) (some (AObj.map .s (mpF check_Clocks_V0 (Mp.get y95.2.known)) (Mp.n y95.2.known)))).get (q92.ne (Gx.apart q90 q92.gx (by intro h; cases h)) (some (AObj.map .s (mpF check_Clocks_V0 (Mp.get y95.2.known)) (Mp.n y95.2.known)))).get (Gx.same q90 (AObj.map .s (mpF check_Clocks_V0 (Mp.get y95.2.known)) (Mp.n y95.2.known))).get (q89.ne (Gx.apart q90 q89.gx (by intro h; cases h)) (some (AObj.map .s (mpF check_Clocks_V0 (Mp.get y95.2.known)) (Mp.n y95.2.known)))).get TT)) (k := ?_)
    refine EC.wka (.cons (.refl _) (.cons (.refl _) .nil)) (S_check_solver_calls _ _ _ h96 _ _ _ _ X21.gx X19 ?_)
    have q93 := Gx.apart X21.gx X19 (by intro h; cases h)
    have q94 := X21.same 123 [(.v (.int .i64 y95.2.finder.at_)), (.v (.int .i64 y95.2.finder.e)), (.mp i19)]
    have q95 := X19.ne q93 (some (AObj.box 123 [(.v (.int .i64 y95.2.finder.at_)), (.v (.int .i64 y95.2.finder.e)), (.mp i19)]))
    have q96 := X1.ne (Ne.symm N1__21) (some (AObj.box 123 [(.v (.int .i64 y95.2.finder.at_)), (.v (.int .i64 y95.2.finder.e)), (.mp i19)]))
    have q97 := X14.ne (Ne.symm N14__21) (some (AObj.box 123 [(.v (.int .i64 y95.2.finder.at_)), (.v (.int .i64 y95.2.finder.e)), (.mp i19)]))
    refine w_y (cj2 E1 (cj20 E5 E8 E14 E76 E77 E78 X1.get X14.get X19.get X21.get A8.rowsOf q96.get q97.get q95.get q94.get (q96.ne (Gx.apart q95 q96.gx (by intro h; cases h)) (some (AObj.map .s (mpF check_Clocks_V0 (Mp.get y95.2.known)) (Mp.n y95.2.known)))).get (q97.ne (Gx.apart q95 q97.gx (by intro h; cases h)) (some (AObj.map .s (mpF check_Clocks_V0 (Mp.get y95.2.known)) (Mp.n y95.2.known)))).get (Gx.same q95 (AObj.map .s (mpF check_Clocks_V0 (Mp.get y95.2.known)) (Mp.n y95.2.known))).get (q94.ne (Gx.apart q95 q94.gx (by intro h; cases h)) (some (AObj.map .s (mpF check_Clocks_V0 (Mp.get y95.2.known)) (Mp.n y95.2.known)))).get TT)) (k := ?_)
    refine w_bk ?_
    obtain rfl := some_inj h89
    have q98 := Gx.apart X21.gx X19 (by intro h; cases h)
    have q99 := X21.same 123 [(.v (.int .i64 y95.2.finder.at_)), (.v (.int .i64 y95.2.finder.e)), (.mp i19)]
    have q100 := X19.ne q98 (some (AObj.box 123 [(.v (.int .i64 y95.2.finder.at_)), (.v (.int .i64 y95.2.finder.e)), (.mp i19)]))
    have q101 := Gx.apart q100 q99.gx (by intro h; cases h)
    have q102 := X1.ne (Ne.symm N1__21) (some (AObj.box 123 [(.v (.int .i64 y95.2.finder.at_)), (.v (.int .i64 y95.2.finder.e)), (.mp i19)]))
    have q103 := Gx.apart q100 q102.gx (by intro h; cases h)
    have q104 := X14.ne (Ne.symm N14__21) (some (AObj.box 123 [(.v (.int .i64 y95.2.finder.at_)), (.v (.int .i64 y95.2.finder.e)), (.mp i19)]))
    have q105 := Gx.apart q100 q104.gx (by intro h; cases h)
    have q106 := Gx.same q100 (AObj.map .s (mpF check_Clocks_V0 (Mp.get y95.2.known)) (Mp.n y95.2.known))
    have q107 := cj20 E5 E8 E14 E76 E77 E78 X1.get X14.get X19.get X21.get A8.rowsOf q102.get q104.get q100.get q99.get (q102.ne q103 (some (AObj.map .s (mpF check_Clocks_V0 (Mp.get y95.2.known)) (Mp.n y95.2.known)))).get (q104.ne q105 (some (AObj.map .s (mpF check_Clocks_V0 (Mp.get y95.2.known)) (Mp.n y95.2.known)))).get q106.get (q99.ne q101 (some (AObj.map .s (mpF check_Clocks_V0 (Mp.get y95.2.known)) (Mp.n y95.2.known)))).get TT
    exact cw_n ⟨_, WkE.refl _, _, _, p8, rfl, (q102.ne q103 (some (AObj.map .s (mpF check_Clocks_V0 (Mp.get y95.2.known)) (Mp.n y95.2.known)))), q106, L19, (q99.ne q101 (some (AObj.map .s (mpF check_Clocks_V0 (Mp.get y95.2.known)) (Mp.n y95.2.known)))), (xv (cj2 E1 q107)), (xv (cj2 E1 q107)), (xv (cj2 E1 q107)), ((A8.setg X21.gx (by intro a b c h; cases h) (some (AObj.box 123 [(.v (.int .i64 y95.2.finder.at_)), (.v (.int .i64 y95.2.finder.e)), (.mp i19)]))).setg q100 (by intro a b c h; cases h) (some (AObj.map .s (mpF check_Clocks_V0 (Mp.get y95.2.known)) (Mp.n y95.2.known)))), (xv (cj2 E1 q107)), (xv (cj2 E1 q107)), (xv (cj2 E1 q107)), N1__21, ((hP.set X21.le (some (AObj.box 123 [(.v (.int .i64 y95.2.finder.at_)), (.v (.int .i64 y95.2.finder.e)), (.mp i19)]))).set L19 (some (AObj.map .s (mpF check_Clocks_V0 (Mp.get y95.2.known)) (Mp.n y95.2.known))))⟩
   obtain ⟨v19_90, v21_91, p8, rfl, X1, X19, L19, X21, E1, E5, E8, A8, E76, E77, E78, N1__21, hP⟩ := hI
   try dsimp only at hf86
   refine w_x (cj11 E1 E5 E8 E76 E77 E78 X1.get X19.get X21.get A8.rowsOf TT) (k := ?_)
   obtain rfl := some_inj hf86
   have q108 := cj11 E1 E5 E8 E76 E77 E78 X1.get X19.get X21.get A8.rowsOf TT
   exact iq_n rfl ⟨_, WkE.refl _, _, _, _, p8, rfl, X1, X19, L19, X21, (xv q108), (xv q108), (xv q108), A8, (xv q108), (xv q108), (xv q108), N1__21, hP⟩
  ·refine xf (cj8 E1 E5 E8 E76 E77 E78 E79 hb87) ?_
   refine w_exit ?_
   refine w_sqx ?_
   obtain rfl := some_inj hf86
   refine iq_x rfl fun hr97 => ?_
   obtain rfl := hr97
   refine w_bkx ?_
   have q109 := cj7 E1 E5 E8 E76 E77 E78 E79
   exact cw_n ⟨_, WkE.refl _, _, _, p8, rfl, X1, X19, L19, X21, (xv q109), (xv q109), (xv q109), A8, N1__21, hP⟩
 obtain ⟨v19_80, v21_81, p8, rfl, X1, X19, L19, X21, E1, E5, E8, A8, N1__21, hP⟩ := hI
 try dsimp only at h
 refine w_assoc ?_
 refine w_sa (fun e s => ∃ p8 : PV, Gx s i19 (AObj.map .s (mpF check_Clocks_V0 (Mp.get v19_80)) (Mp.n v19_80)) ∧ σ.length ≤ i19 ∧ Bx σ s i21 123 [(.v (.int .i64 v21_81.finder.at_)), (.v (.int .i64 v21_81.finder.e)), (.mp i19)] ∧ e 5 = (.pt i21 0) ∧ e 8 = p8 ∧ Acc σ s p8 43 2 (List.map Clock.cl v8_37) ∧ e 88 = (.sl (List.map Flow.cl a0.flows)) ∧ e 89 = (.v (.int .i64 ((List.length a0.flows : Nat) : Int))) ∧ e 90 = (.v (.int .i64 (0 : Int))) ∧ Pre σ s) ?_ fun e s hI => ?_
 ·refine w_x (cj8 E1 E5 E8 X1.get X19.get X21.get A8.rowsOf TT) (k := ?_)
  have q110 := cj8 E1 E5 E8 X1.get X19.get X21.get A8.rowsOf TT
  exact cw_n ⟨_, WkE.refl _, p8, X19, L19, X21, (xv q110), (xv q110), A8, (xv q110), (xv q110), (xv q110), hP⟩
 obtain ⟨p8, X19, L19, X21, E5, E8, A8, E88, E89, E90, hP⟩ := hI
 obtain ⟨x98, h99, h⟩ := bnd_some h
 refine w_sa (fun e s => ∃ v19_100 : (Mp Clock), ∃ v21_101 : check_solver, ∃ p8 : PV, (v19_100, v21_101) = x98 ∧ Gx s i19 (AObj.map .s (mpF check_Clocks_V0 (Mp.get v19_100)) (Mp.n v19_100)) ∧ σ.length ≤ i19 ∧ Bx σ s i21 123 [(.v (.int .i64 v21_101.finder.at_)), (.v (.int .i64 v21_101.finder.e)), (.mp i19)] ∧ e 5 = (.pt i21 0) ∧ e 8 = p8 ∧ Acc σ s p8 43 2 (List.map Clock.cl v8_37) ∧ Pre σ s) ?_ fun e s hI => ?_
 ·refine w_block ?_
  have q111 := cj5 E5 E8 E88 E89 E90
  refine w_iter h99 (fun v e s => ∃ v90_102 : Int, ∃ v19_103 : (Mp Clock), ∃ v21_104 : check_solver, ∃ p8 : PV, (v90_102, v19_103, v21_104) = v ∧ Gx s i19 (AObj.map .s (mpF check_Clocks_V0 (Mp.get v19_103)) (Mp.n v19_103)) ∧ σ.length ≤ i19 ∧ Bx σ s i21 123 [(.v (.int .i64 v21_104.finder.at_)), (.v (.int .i64 v21_104.finder.e)), (.mp i19)] ∧ e 5 = (.pt i21 0) ∧ e 8 = p8 ∧ Acc σ s p8 43 2 (List.map Clock.cl v8_37) ∧ e 88 = (.sl (List.map Flow.cl a0.flows)) ∧ e 89 = (.v (.int .i64 ((List.length a0.flows : Nat) : Int))) ∧ e 90 = (.v (.int .i64 v90_102)) ∧ Pre σ s) ⟨_, WkE.refl _, _, _, _, p8, rfl, X19, L19, X21, (xv q111), (xv q111), A8, (xv q111), (xv q111), (xv q111), hP⟩ fun v x105 e s hf106 hI => ?_
  obtain ⟨v90_102, v19_103, v21_104, p8, rfl, X19, L19, X21, E5, E8, A8, E88, E89, E90, hP⟩ := hI
  unfold check_Clocks_L4 at hf106
  try dsimp only at hf106
  refine w_sa (fun e s => ∃ p8 : PV, Gx s i19 (AObj.map .s (mpF check_Clocks_V0 (Mp.get v19_103)) (Mp.n v19_103)) ∧ σ.length ≤ i19 ∧ Bx σ s i21 123 [(.v (.int .i64 v21_104.finder.at_)), (.v (.int .i64 v21_104.finder.e)), (.mp i19)] ∧ e 5 = (.pt i21 0) ∧ e 8 = p8 ∧ Acc σ s p8 43 2 (List.map Clock.cl v8_37) ∧ e 88 = (.sl (List.map Flow.cl a0.flows)) ∧ e 89 = (.v (.int .i64 ((List.length a0.flows : Nat) : Int))) ∧ e 90 = (.v (.int .i64 v90_102)) ∧ e 91 = (.v (.bool (decide (v90_102 < ((List.length a0.flows : Nat) : Int))))) ∧ Pre σ s) ?_ fun e s hI => ?_
  ·refine w_x (cj9 E5 E8 E88 E89 E90 X19.get X21.get A8.rowsOf TT) (k := ?_)
   have q112 := cj9 E5 E8 E88 E89 E90 X19.get X21.get A8.rowsOf TT
   exact cw_n ⟨_, WkE.refl _, p8, X19, L19, X21, (xv q112), (xv q112), A8, (xv q112), (xv q112), (xv q112), (xv q112), hP⟩
  obtain ⟨p8, X19, L19, X21, E5, E8, A8, E88, E89, E90, E91, hP⟩ := hI
  refine w_seq ?_
  rcases ite_some hf106 with ⟨hb107, hf106⟩ | ⟨hb107, hf106⟩
  ·refine xt (cj7 E5 E8 E88 E89 E90 E91 hb107) ?_
   refine w_skip ?_
   refine w_sq ?_
   obtain ⟨x108, h109, hf106⟩ := bnd_some hf106
   refine w_sa (fun e s => ∃ v19_110 : (Mp Clock), ∃ v21_111 : check_solver, ∃ p8 : PV, (v19_110, v21_111) = x108 ∧ Gx s i19 (AObj.map .s (mpF check_Clocks_V0 (Mp.get v19_110)) (Mp.n v19_110)) ∧ σ.length ≤ i19 ∧ Bx σ s i21 123 [(.v (.int .i64 v21_111.finder.at_)), (.v (.int .i64 v21_111.finder.e)), (.mp i19)] ∧ e 5 = (.pt i21 0) ∧ e 8 = p8 ∧ Acc σ s p8 43 2 (List.map Clock.cl v8_37) ∧ e 88 = (.sl (List.map Flow.cl a0.flows)) ∧ e 89 = (.v (.int .i64 ((List.length a0.flows : Nat) : Int))) ∧ e 90 = (.v (.int .i64 v90_102)) ∧ Pre σ s) ?_ fun e s hI => ?_
   ·refine w_block ?_
    obtain ⟨y112, h113, h109⟩ := bnd_some h109
    refine w_sa (fun e s => ∃ i16 : Nat, ∃ p8 : PV, Bx σ s i16 41 [(.v (.string y112.name)), (.v (.int .i64 y112.e.kind)), (.v (.string y112.e.name)), (.v (.int .i64 y112.e.n)), (.v (.int .i64 y112.e.d)), (.sl (Expr.rows y112.e.args)), (.v (.int .i64 y112.e.at_)), (.v (.int .i64 y112.at_))] ∧ Gx s i19 (AObj.map .s (mpF check_Clocks_V0 (Mp.get v19_103)) (Mp.n v19_103)) ∧ σ.length ≤ i19 ∧ Bx σ s i21 123 [(.v (.int .i64 v21_104.finder.at_)), (.v (.int .i64 v21_104.finder.e)), (.mp i19)] ∧ e 5 = (.pt i21 0) ∧ e 8 = p8 ∧ Acc σ s p8 43 2 (List.map Clock.cl v8_37) ∧ e 16 = (.pt i16 0) ∧ e 88 = (.sl (List.map Flow.cl a0.flows)) ∧ e 89 = (.v (.int .i64 ((List.length a0.flows : Nat) : Int))) ∧ e 90 = (.v (.int .i64 v90_102)) ∧ i16 ≠ i21 ∧ Pre σ s) ?_ fun e s hI => ?_
    ·have R114 : (List.map Flow.cl a0.flows)[(v90_102).toNat]? = some [(.v (.string y112.name)), (.v (.int .i64 y112.e.kind)), (.v (.string y112.e.name)), (.v (.int .i64 y112.e.n)), (.v (.int .i64 y112.e.d)), (.sl (Expr.rows y112.e.args)), (.v (.int .i64 y112.e.at_)), (.v (.int .i64 y112.at_))] := map_get (getI_some h113).2
     refine w_x (cj16 E5 E8 E88 E89 E90 E91 X19.get X19.any X19.any2 X21.get X21.any X21.any2 A8.rowsOf R114 (getI_some h113).1 TT) (k := ?_)
     have q113 := cj16 E5 E8 E88 E89 E90 E91 X19.get X19.any X19.any2 X21.get X21.any X21.any2 A8.rowsOf R114 (getI_some h113).1 TT
     exact cw_n ⟨_, WkE.refl _, s.length, p8, (Bx.new hP 41 [(.v (.string y112.name)), (.v (.int .i64 y112.e.kind)), (.v (.string y112.e.name)), (.v (.int .i64 y112.e.n)), (.v (.int .i64 y112.e.d)), (.sl (Expr.rows y112.e.args)), (.v (.int .i64 y112.e.at_)), (.v (.int .i64 y112.at_))]), (X19.app [some (AObj.box 41 [(.v (.string y112.name)), (.v (.int .i64 y112.e.kind)), (.v (.string y112.e.name)), (.v (.int .i64 y112.e.n)), (.v (.int .i64 y112.e.d)), (.sl (Expr.rows y112.e.args)), (.v (.int .i64 y112.e.at_)), (.v (.int .i64 y112.at_))])]), L19, (X21.app [some (AObj.box 41 [(.v (.string y112.name)), (.v (.int .i64 y112.e.kind)), (.v (.string y112.e.name)), (.v (.int .i64 y112.e.n)), (.v (.int .i64 y112.e.d)), (.sl (Expr.rows y112.e.args)), (.v (.int .i64 y112.e.at_)), (.v (.int .i64 y112.at_))])]), (xv q113), (xv q113), (A8.app [some (AObj.box 41 [(.v (.string y112.name)), (.v (.int .i64 y112.e.kind)), (.v (.string y112.e.name)), (.v (.int .i64 y112.e.n)), (.v (.int .i64 y112.e.d)), (.sl (Expr.rows y112.e.args)), (.v (.int .i64 y112.e.at_)), (.v (.int .i64 y112.at_))])]), (xv q113), (xv q113), (xv q113), (xv q113), (Ne.symm (Nat.ne_of_lt X21.lt)), (hP.app _)⟩
    obtain ⟨i16, p8, X16, X19, L19, X21, E5, E8, A8, E16, E88, E89, E90, N16__21, hP⟩ := hI
    obtain ⟨y115, h116, h109⟩ := bnd_some h109
    refine w_sa (fun e s => ∃ i17 : Nat, ∃ p8 : PV, Bx σ s i16 41 [(.v (.string y112.name)), (.v (.int .i64 y112.e.kind)), (.v (.string y112.e.name)), (.v (.int .i64 y112.e.n)), (.v (.int .i64 y112.e.d)), (.sl (Expr.rows y112.e.args)), (.v (.int .i64 y112.e.at_)), (.v (.int .i64 y112.at_))] ∧ Bx σ s i17 43 [(.v (.int .i64 y115.1.1.period)), (.v (.int .i64 y115.1.1.phase))] ∧ Gx s i19 (AObj.map .s (mpF check_Clocks_V0 (Mp.get y115.2.known)) (Mp.n y115.2.known)) ∧ σ.length ≤ i19 ∧ Bx σ s i21 123 [(.v (.int .i64 y115.2.finder.at_)), (.v (.int .i64 y115.2.finder.e)), (.mp i19)] ∧ e 5 = (.pt i21 0) ∧ e 8 = p8 ∧ Acc σ s p8 43 2 (List.map Clock.cl v8_37) ∧ e 16 = (.pt i16 0) ∧ e 17 = (.pt i17 0) ∧ e 18 = (.v (.bool y115.1.2)) ∧ e 88 = (.sl (List.map Flow.cl a0.flows)) ∧ e 89 = (.v (.int .i64 ((List.length a0.flows : Nat) : Int))) ∧ e 90 = (.v (.int .i64 v90_102)) ∧ i16 ≠ i21 ∧ i17 ≠ i21 ∧ Pre σ s) ?_ fun e s hI => ?_
    ·have q114 := Gx.apart X21.gx X19 (by intro h; cases h)
     have q115 := X21.same 123 [(.v (.int .i64 y115.2.finder.at_)), (.v (.int .i64 y115.2.finder.e)), (.mp i19)]
     have q116 := X19.ne q114 (some (AObj.box 123 [(.v (.int .i64 y115.2.finder.at_)), (.v (.int .i64 y115.2.finder.e)), (.mp i19)]))
     have q117 := X16.ne (Ne.symm N16__21) (some (AObj.box 123 [(.v (.int .i64 y115.2.finder.at_)), (.v (.int .i64 y115.2.finder.e)), (.mp i19)]))
     refine w_x (cj4 E5 E8 E16 (cj20 E88 E89 E90 X16.get X16.any X16.any2 X19.get X19.any X19.any2 X21.get X21.any X21.any2 A8.rowsOf q117.get q116.get q115.get (q117.ne (Gx.apart q116 q117.gx (by intro h; cases h)) (some (AObj.map .s (mpF check_Clocks_V0 (Mp.get y115.2.known)) (Mp.n y115.2.known)))).get (Gx.same q116 (AObj.map .s (mpF check_Clocks_V0 (Mp.get y115.2.known)) (Mp.n y115.2.known))).get (q115.ne (Gx.apart q116 q115.gx (by intro h; cases h)) (some (AObj.map .s (mpF check_Clocks_V0 (Mp.get y115.2.known)) (Mp.n y115.2.known)))).get TT)) (k := ?_)
     refine EC.wka (.cons (.refl _) (.cons (.refl _) .nil)) (S_check_solver_of _ _ _ h116 _ _ _ _ X21.gx X19 ?_)
     have q118 := Gx.apart X21.gx X19 (by intro h; cases h)
     have q119 := X21.same 123 [(.v (.int .i64 y115.2.finder.at_)), (.v (.int .i64 y115.2.finder.e)), (.mp i19)]
     have q120 := X19.ne q118 (some (AObj.box 123 [(.v (.int .i64 y115.2.finder.at_)), (.v (.int .i64 y115.2.finder.e)), (.mp i19)]))
     have q121 := X16.ne (Ne.symm N16__21) (some (AObj.box 123 [(.v (.int .i64 y115.2.finder.at_)), (.v (.int .i64 y115.2.finder.e)), (.mp i19)]))
     refine w_y (cj4 E5 E8 E16 (cj20 E88 E89 E90 X16.get X16.any X16.any2 X19.get X19.any X19.any2 X21.get X21.any X21.any2 A8.rowsOf q121.get q120.get q119.get (q121.ne (Gx.apart q120 q121.gx (by intro h; cases h)) (some (AObj.map .s (mpF check_Clocks_V0 (Mp.get y115.2.known)) (Mp.n y115.2.known)))).get (Gx.same q120 (AObj.map .s (mpF check_Clocks_V0 (Mp.get y115.2.known)) (Mp.n y115.2.known))).get (q119.ne (Gx.apart q120 q119.gx (by intro h; cases h)) (some (AObj.map .s (mpF check_Clocks_V0 (Mp.get y115.2.known)) (Mp.n y115.2.known)))).get TT)) (k := ?_)
     have q122 := Gx.apart X21.gx X19 (by intro h; cases h)
     have q123 := X21.same 123 [(.v (.int .i64 y115.2.finder.at_)), (.v (.int .i64 y115.2.finder.e)), (.mp i19)]
     have q124 := X19.ne q122 (some (AObj.box 123 [(.v (.int .i64 y115.2.finder.at_)), (.v (.int .i64 y115.2.finder.e)), (.mp i19)]))
     have q125 := Gx.apart q124 q123.gx (by intro h; cases h)
     have q126 := X16.ne (Ne.symm N16__21) (some (AObj.box 123 [(.v (.int .i64 y115.2.finder.at_)), (.v (.int .i64 y115.2.finder.e)), (.mp i19)]))
     have q127 := Gx.apart q124 q126.gx (by intro h; cases h)
     have q128 := Gx.same q124 (AObj.map .s (mpF check_Clocks_V0 (Mp.get y115.2.known)) (Mp.n y115.2.known))
     have q129 := cj20 E88 E89 E90 X16.get X16.any X16.any2 X19.get X19.any X19.any2 X21.get X21.any X21.any2 A8.rowsOf q126.get q124.get q123.get (q126.ne q127 (some (AObj.map .s (mpF check_Clocks_V0 (Mp.get y115.2.known)) (Mp.n y115.2.known)))).get q128.get (q123.ne q125 (some (AObj.map .s (mpF check_Clocks_V0 (Mp.get y115.2.known)) (Mp.n y115.2.known)))).get TT
     have q130 := cj4 E5 E8 E16 q129
     exact cw_n ⟨_, WkE.refl _, (List.set (List.set s i21 (some (AObj.box 123 [(.v (.int .i64 y115.2.finder.at_)), (.v (.int .i64 y115.2.finder.e)), (.mp i19)]))) i19 (some (AObj.map .s (mpF check_Clocks_V0 (Mp.get y115.2.known)) (Mp.n y115.2.known)))).length, p8, ((q126.ne q127 (some (AObj.map .s (mpF check_Clocks_V0 (Mp.get y115.2.known)) (Mp.n y115.2.known)))).app [some (AObj.box 43 [(.v (.int .i64 y115.1.1.period)), (.v (.int .i64 y115.1.1.phase))])]), (Bx.new ((hP.set X21.le (some (AObj.box 123 [(.v (.int .i64 y115.2.finder.at_)), (.v (.int .i64 y115.2.finder.e)), (.mp i19)]))).set L19 (some (AObj.map .s (mpF check_Clocks_V0 (Mp.get y115.2.known)) (Mp.n y115.2.known)))) 43 [(.v (.int .i64 y115.1.1.period)), (.v (.int .i64 y115.1.1.phase))]), (q128.app [some (AObj.box 43 [(.v (.int .i64 y115.1.1.period)), (.v (.int .i64 y115.1.1.phase))])]), L19, ((q123.ne q125 (some (AObj.map .s (mpF check_Clocks_V0 (Mp.get y115.2.known)) (Mp.n y115.2.known)))).app [some (AObj.box 43 [(.v (.int .i64 y115.1.1.period)), (.v (.int .i64 y115.1.1.phase))])]), (xv q130), (xv q130), (((A8.setg X21.gx (by intro a b c h; cases h) (some (AObj.box 123 [(.v (.int .i64 y115.2.finder.at_)), (.v (.int .i64 y115.2.finder.e)), (.mp i19)]))).setg q124 (by intro a b c h; cases h) (some (AObj.map .s (mpF check_Clocks_V0 (Mp.get y115.2.known)) (Mp.n y115.2.known)))).app [some (AObj.box 43 [(.v (.int .i64 y115.1.1.period)), (.v (.int .i64 y115.1.1.phase))])]), (xv q130), (xv q130), (xv q130), (xv q130), (xv q130), (xv q130), N16__21, (Ne.symm (Nat.ne_of_lt (q123.ne q125 (some (AObj.map .s (mpF check_Clocks_V0 (Mp.get y115.2.known)) (Mp.n y115.2.known)))).lt)), (((hP.set X21.le (some (AObj.box 123 [(.v (.int .i64 y115.2.finder.at_)), (.v (.int .i64 y115.2.finder.e)), (.mp i19)]))).set L19 (some (AObj.map .s (mpF check_Clocks_V0 (Mp.get y115.2.known)) (Mp.n y115.2.known)))).app _)⟩
    obtain ⟨i17, p8, X16, X17, X19, L19, X21, E5, E8, A8, E16, E17, E18, E88, E89, E90, N16__21, N17__21, hP⟩ := hI
    refine w_sa (fun e s => ∃ p8 : PV, Bx σ s i16 41 [(.v (.string y112.name)), (.v (.int .i64 y112.e.kind)), (.v (.string y112.e.name)), (.v (.int .i64 y112.e.n)), (.v (.int .i64 y112.e.d)), (.sl (Expr.rows y112.e.args)), (.v (.int .i64 y112.e.at_)), (.v (.int .i64 y112.at_))] ∧ Gx s i19 (AObj.map .s (mpF check_Clocks_V0 (Mp.get y115.2.known)) (Mp.n y115.2.known)) ∧ σ.length ≤ i19 ∧ Bx σ s i21 123 [(.v (.int .i64 y115.2.finder.at_)), (.v (.int .i64 y115.2.finder.e)), (.mp i19)] ∧ e 5 = (.pt i21 0) ∧ e 8 = p8 ∧ Acc σ s p8 43 2 (List.map Clock.cl v8_37) ∧ e 16 = (.pt i16 0) ∧ e 88 = (.sl (List.map Flow.cl a0.flows)) ∧ e 89 = (.v (.int .i64 ((List.length a0.flows : Nat) : Int))) ∧ e 90 = (.v (.int .i64 v90_102)) ∧ e 112 = (.v (.bool (y115.1.2 && (!(decide (y115.1.1.period = ((Option.getD (Mp.get y115.2.known y112.name) (Clock.mk (0 : Int) (0 : Int))).period)) && (decide (y115.1.1.phase = ((Option.getD (Mp.get y115.2.known y112.name) (Clock.mk (0 : Int) (0 : Int))).phase)))))))) ∧ i16 ≠ i21 ∧ Pre σ s) ?_ fun e s hI => ?_
    ·cases hb117 : y115.1.2
     ·refine w_xp (cj15 E5 E8 E16 E17 E18 E88 E89 E90 X16.get X17.get X19.get X21.get A8.rowsOf hb117 TT) (k := ?_)
      have q131 := cj15 E5 E8 E16 E17 E18 E88 E89 E90 X16.get X17.get X19.get X21.get A8.rowsOf hb117 TT
      exact cw_n ⟨_, WkE.refl _, p8, X16, X19, L19, X21, (xv q131), (xv q131), A8, (xv q131), (xv q131), (xv q131), (xv q131), (xv q131), N16__21, hP⟩
     ·have R118 : Option.getD (Option.map check_Clocks_V0 (Mp.get y115.2.known y112.name)) (.ag [(.v (.int .i64 (0 : Int))), (.v (.int .i64 (0 : Int)))]) = (.ag [(.v (.int .i64 ((Option.getD (Mp.get y115.2.known y112.name) (Clock.mk (0 : Int) (0 : Int))).period))), (.v (.int .i64 ((Option.getD (Mp.get y115.2.known y112.name) (Clock.mk (0 : Int) (0 : Int))).phase)))]) := by cases Mp.get y115.2.known y112.name <;> rfl
      refine w_xp (cj16 E5 E8 E16 E17 E18 E88 E89 E90 X16.get X17.get X19.get X21.get A8.rowsOf hb117 R118 TT) (k := ?_)
      have q132 := cj16 E5 E8 E16 E17 E18 E88 E89 E90 X16.get X17.get X19.get X21.get A8.rowsOf hb117 R118 TT
      exact cw_n ⟨_, WkE.refl _, p8, X16, X19, L19, X21, (xv q132), (xv q132), A8, (xv q132), (xv q132), (xv q132), (xv q132), (xv q132), N16__21, hP⟩
    obtain ⟨p8, X16, X19, L19, X21, E5, E8, A8, E16, E88, E89, E90, E112, N16__21, hP⟩ := hI
    obtain ⟨x119, h120, h109⟩ := bnd_some h109
    refine w_an (fun e s => ∃ v19_121 : (Mp Clock), ∃ v21_122 : check_solver, ∃ p8 : PV, (v19_121, v21_122) = x119 ∧ Gx s i19 (AObj.map .s (mpF check_Clocks_V0 (Mp.get v19_121)) (Mp.n v19_121)) ∧ σ.length ≤ i19 ∧ Bx σ s i21 123 [(.v (.int .i64 v21_122.finder.at_)), (.v (.int .i64 v21_122.finder.e)), (.mp i19)] ∧ e 5 = (.pt i21 0) ∧ e 8 = p8 ∧ Acc σ s p8 43 2 (List.map Clock.cl v8_37) ∧ e 88 = (.sl (List.map Flow.cl a0.flows)) ∧ e 89 = (.v (.int .i64 ((List.length a0.flows : Nat) : Int))) ∧ e 90 = (.v (.int .i64 v90_102)) ∧ Pre σ s) ?_ fun e s hI => ?_
    ·rcases ite_some h120 with ⟨hb123, h120⟩ | ⟨hb123, h120⟩
     ·refine xt (cj8 E5 E8 E16 E88 E89 E90 E112 hb123) ?_
      obtain ⟨y124, h125, h120⟩ := bnd_some h120
      have q133 := Gx.apart X21.gx X19 (by intro h; cases h)
      have q134 := X21.same 123 [(.v (.int .i64 y124.2.finder.at_)), (.v (.int .i64 y124.2.finder.e)), (.mp i19)]
      have q135 := X19.ne q133 (some (AObj.box 123 [(.v (.int .i64 y124.2.finder.at_)), (.v (.int .i64 y124.2.finder.e)), (.mp i19)]))
      have q136 := X16.ne (Ne.symm N16__21) (some (AObj.box 123 [(.v (.int .i64 y124.2.finder.at_)), (.v (.int .i64 y124.2.finder.e)), (.mp i19)]))
      refine w_xd 5 0 (cj18 E5 E8 E16 E88 E89 E90 E112 X16.get X19.get X21.get A8.rowsOf q136.get q135.get q134.get (q136.ne (Gx.apart q135 q136.gx (by intro h; cases h)) (some (AObj.map .s (mpF check_Clocks_V0 (Mp.get y124.2.known)) (Mp.n y124.2.known)))).get (Gx.same q135 (AObj.map .s (mpF check_Clocks_V0 (Mp.get y124.2.known)) (Mp.n y124.2.known))).get (q134.ne (Gx.apart q135 q134.gx (by intro h; cases h)) (some (AObj.map .s (mpF check_Clocks_V0 (Mp.get y124.2.known)) (Mp.n y124.2.known)))).get TT) (hk := ?_)
      have q137 := Gx.apart X21.gx X19 (by intro h; cases h)
      have q138 := X21.same 123 [(.v (.int .i64 y124.2.finder.at_)), (.v (.int .i64 y124.2.finder.e)), (.mp i19)]
      have q139 := X19.ne q137 (some (AObj.box 123 [(.v (.int .i64 y124.2.finder.at_)), (.v (.int .i64 y124.2.finder.e)), (.mp i19)]))
      have q140 := X16.ne (Ne.symm N16__21) (some (AObj.box 123 [(.v (.int .i64 y124.2.finder.at_)), (.v (.int .i64 y124.2.finder.e)), (.mp i19)]))
      refine w_xs (cj18 E5 E8 E16 E88 E89 E90 E112 X16.get X19.get X21.get A8.rowsOf q140.get q139.get q138.get (q140.ne (Gx.apart q139 q140.gx (by intro h; cases h)) (some (AObj.map .s (mpF check_Clocks_V0 (Mp.get y124.2.known)) (Mp.n y124.2.known)))).get (Gx.same q139 (AObj.map .s (mpF check_Clocks_V0 (Mp.get y124.2.known)) (Mp.n y124.2.known))).get (q138.ne (Gx.apart q139 q138.gx (by intro h; cases h)) (some (AObj.map .s (mpF check_Clocks_V0 (Mp.get y124.2.known)) (Mp.n y124.2.known)))).get TT) (k := ?_)
      refine EC.wka (.cons (.refl _) (.cons (.refl _) (.cons (.refl _) .nil))) (S_check_finder_fail_in_check_solver _ _ _ _ h125 _ _ _ _ X21.gx X19 ?_)
      have q141 := Gx.apart X21.gx X19 (by intro h; cases h)
      have q142 := X21.same 123 [(.v (.int .i64 y124.2.finder.at_)), (.v (.int .i64 y124.2.finder.e)), (.mp i19)]
      have q143 := X19.ne q141 (some (AObj.box 123 [(.v (.int .i64 y124.2.finder.at_)), (.v (.int .i64 y124.2.finder.e)), (.mp i19)]))
      have q144 := X16.ne (Ne.symm N16__21) (some (AObj.box 123 [(.v (.int .i64 y124.2.finder.at_)), (.v (.int .i64 y124.2.finder.e)), (.mp i19)]))
      refine w_y (cj18 E5 E8 E16 E88 E89 E90 E112 X16.get X19.get X21.get A8.rowsOf q144.get q143.get q142.get (q144.ne (Gx.apart q143 q144.gx (by intro h; cases h)) (some (AObj.map .s (mpF check_Clocks_V0 (Mp.get y124.2.known)) (Mp.n y124.2.known)))).get (Gx.same q143 (AObj.map .s (mpF check_Clocks_V0 (Mp.get y124.2.known)) (Mp.n y124.2.known))).get (q142.ne (Gx.apart q143 q142.gx (by intro h; cases h)) (some (AObj.map .s (mpF check_Clocks_V0 (Mp.get y124.2.known)) (Mp.n y124.2.known)))).get TT) (k := ?_)
      obtain rfl := some_inj h120
      have q145 := Gx.apart X21.gx X19 (by intro h; cases h)
      have q146 := X21.same 123 [(.v (.int .i64 y124.2.finder.at_)), (.v (.int .i64 y124.2.finder.e)), (.mp i19)]
      have q147 := X19.ne q145 (some (AObj.box 123 [(.v (.int .i64 y124.2.finder.at_)), (.v (.int .i64 y124.2.finder.e)), (.mp i19)]))
      have q148 := Gx.apart q147 q146.gx (by intro h; cases h)
      have q149 := X16.ne (Ne.symm N16__21) (some (AObj.box 123 [(.v (.int .i64 y124.2.finder.at_)), (.v (.int .i64 y124.2.finder.e)), (.mp i19)]))
      have q150 := Gx.apart q147 q149.gx (by intro h; cases h)
      have q151 := Gx.same q147 (AObj.map .s (mpF check_Clocks_V0 (Mp.get y124.2.known)) (Mp.n y124.2.known))
      have q152 := cj18 E5 E8 E16 E88 E89 E90 E112 X16.get X19.get X21.get A8.rowsOf q149.get q147.get q146.get (q149.ne q150 (some (AObj.map .s (mpF check_Clocks_V0 (Mp.get y124.2.known)) (Mp.n y124.2.known)))).get q151.get (q146.ne q148 (some (AObj.map .s (mpF check_Clocks_V0 (Mp.get y124.2.known)) (Mp.n y124.2.known)))).get TT
      exact ct_n ⟨_, _, p8, rfl, q151, L19, (q146.ne q148 (some (AObj.map .s (mpF check_Clocks_V0 (Mp.get y124.2.known)) (Mp.n y124.2.known)))), (xv q152), (xv q152), ((A8.setg X21.gx (by intro a b c h; cases h) (some (AObj.box 123 [(.v (.int .i64 y124.2.finder.at_)), (.v (.int .i64 y124.2.finder.e)), (.mp i19)]))).setg q147 (by intro a b c h; cases h) (some (AObj.map .s (mpF check_Clocks_V0 (Mp.get y124.2.known)) (Mp.n y124.2.known)))), (xv q152), (xv q152), (xv q152), ((hP.set X21.le (some (AObj.box 123 [(.v (.int .i64 y124.2.finder.at_)), (.v (.int .i64 y124.2.finder.e)), (.mp i19)]))).set L19 (some (AObj.map .s (mpF check_Clocks_V0 (Mp.get y124.2.known)) (Mp.n y124.2.known))))⟩
     ·refine xf (cj8 E5 E8 E16 E88 E89 E90 E112 hb123) ?_
      refine w_skip ?_
      obtain rfl := some_inj h120
      have q153 := cj7 E5 E8 E16 E88 E89 E90 E112
      exact ct_n ⟨_, _, p8, rfl, X19, L19, X21, (xv q153), (xv q153), A8, (xv q153), (xv q153), (xv q153), hP⟩
    obtain ⟨v19_121, v21_122, p8, rfl, X19, L19, X21, E5, E8, A8, E88, E89, E90, hP⟩ := hI
    try dsimp only at h109
    refine w_bk ?_
    obtain rfl := some_inj h109
    have q154 := cj5 E5 E8 E88 E89 E90
    exact cw_n ⟨_, WkE.refl _, _, _, p8, rfl, X19, L19, X21, (xv q154), (xv q154), A8, (xv q154), (xv q154), (xv q154), hP⟩
   obtain ⟨v19_110, v21_111, p8, rfl, X19, L19, X21, E5, E8, A8, E88, E89, E90, hP⟩ := hI
   try dsimp only at hf106
   refine w_x (cj9 E5 E8 E88 E89 E90 X19.get X21.get A8.rowsOf TT) (k := ?_)
   obtain rfl := some_inj hf106
   have q155 := cj9 E5 E8 E88 E89 E90 X19.get X21.get A8.rowsOf TT
   exact iq_n rfl ⟨_, WkE.refl _, _, _, _, p8, rfl, X19, L19, X21, (xv q155), (xv q155), A8, (xv q155), (xv q155), (xv q155), hP⟩
  ·refine xf (cj7 E5 E8 E88 E89 E90 E91 hb107) ?_
   refine w_exit ?_
   refine w_sqx ?_
   obtain rfl := some_inj hf106
   refine iq_x rfl fun hr126 => ?_
   obtain rfl := hr126
   refine w_bkx ?_
   exact cw_n ⟨_, WkE.refl _, _, _, p8, rfl, X19, L19, X21, (xv (cj6 E5 E8 E88 E89 E90 E91)), (xv (cj6 E5 E8 E88 E89 E90 E91)), A8, hP⟩
 obtain ⟨v19_100, v21_101, p8, rfl, X19, L19, X21, E5, E8, A8, hP⟩ := hI
 try dsimp only at h
 refine w_assoc ?_
 refine w_sa (fun e s => ∃ p8 : PV, Gx s i19 (AObj.map .s (mpF check_Clocks_V0 (Mp.get v19_100)) (Mp.n v19_100)) ∧ σ.length ≤ i19 ∧ Bx σ s i21 123 [(.v (.int .i64 v21_101.finder.at_)), (.v (.int .i64 v21_101.finder.e)), (.mp i19)] ∧ e 5 = (.pt i21 0) ∧ e 8 = p8 ∧ Acc σ s p8 43 2 (List.map Clock.cl v8_37) ∧ e 125 = (.v (.bool (!decide (v21_101.finder.e = (0 : Int))))) ∧ Pre σ s) ?_ fun e s hI => ?_
 ·refine w_x (cj6 E5 E8 X19.get X21.get A8.rowsOf TT) (k := ?_)
  have q156 := cj6 E5 E8 X19.get X21.get A8.rowsOf TT
  exact cw_n ⟨_, WkE.refl _, p8, X19, L19, X21, (xv q156), (xv q156), A8, (xv q156), hP⟩
 obtain ⟨p8, X19, L19, X21, E5, E8, A8, E125, hP⟩ := hI
 refine w_seq ?_
 rcases ite_some h with ⟨hb127, h⟩ | ⟨hb127, h⟩
 ·refine xt (cj4 E5 E8 E125 hb127) ?_
  refine w_sa (fun e s => e 2 = (.sl (List.map Clock.cl ([]))) ∧ e 3 = (.v (.int .i64 v21_101.finder.at_)) ∧ e 4 = (.v (.int .i64 v21_101.finder.e)) ∧ Pre σ s) ?_ fun e s hI => ?_
  ·refine w_xp (cj7 E5 E8 E125 X19.get X21.get A8.rowsOf TT) (k := ?_)
   have q157 := cj7 E5 E8 E125 X19.get X21.get A8.rowsOf TT
   exact cw_n ⟨_, WkE.upd (WkE.refl _) (t := 2) (p := (.v (.slice none 0 0))) (q := (.sl (List.map Clock.cl ([])))) (xv q157) .nil, (xv q157), (xv q157), (xv q157), hP⟩
  obtain ⟨E2, E3, E4, hP⟩ := hI
  refine w_ret ?_
  refine w_sqr ?_
  obtain rfl := some_inj h
  exact w_fin (fun _ => rfl) (xr (rs := #[.tmp 2, .tmp 3, .tmp 4]) (cj3 E2 E3 E4)) hP (r' := (.tu [(.sl (List.map Clock.cl ([]))), (.v (.int .i64 v21_101.finder.at_)), (.v (.int .i64 v21_101.finder.e))])) (.refl _) (.tu (CnL.cons (Cn.rows Clock.cn _) (CnL.cons (.v _) (CnL.cons (.v _) CnL.nil)))) hK
 ·refine xf (cj4 E5 E8 E125 hb127) ?_
  refine w_skip ?_
  refine w_sq ?_
  refine w_sa (fun e s => e 2 = (.sl (List.map Clock.cl v8_37)) ∧ e 3 = (.v (.int .i64 (0 : Int))) ∧ e 4 = (.v (.int .i64 (0 : Int))) ∧ Pre σ s) ?_ fun e s hI => ?_
  ·refine w_x (cj7 E5 E8 E125 X19.get X21.get A8.rowsOf TT) (k := ?_)
   have q158 := cj7 E5 E8 E125 X19.get X21.get A8.rowsOf TT
   exact cw_n ⟨_, WkE.upd (WkE.refl _) (t := 2) (p := p8) (q := (.sl (List.map Clock.cl v8_37))) (xv q158) A8.wk, (xv q158), (xv q158), (xv q158), hP⟩
  obtain ⟨E2, E3, E4, hP⟩ := hI
  refine w_ret ?_
  obtain rfl := some_inj h
  exact w_fin (fun _ => rfl) (xr (rs := #[.tmp 2, .tmp 3, .tmp 4]) (cj3 E2 E3 E4)) hP (r' := (.tu [(.sl (List.map Clock.cl v8_37)), (.v (.int .i64 (0 : Int))), (.v (.int .i64 (0 : Int)))])) (.refl _) (.tu (CnL.cons (Cn.rows Clock.cn _) (CnL.cons (.v _) (CnL.cons (.v _) CnL.nil)))) hK
noncomputable def check_solver_round_L0 (a1 : (List Flow)) (f_check_solver_of : check_solver → Expr → Option ((Clock × Bool) × check_solver)) : (Bool × Int × check_solver × (Mp Clock)) → Option ((Bool × Int × check_solver × (Mp Clock)) ⊕ (Bool × check_solver × (Mp Clock)))
 | (vfound_6, v14_7, vs_8, v0_2_9) =>
  if (decide (v14_7 < ((List.length a1 : Nat) : Int))) then
   ((getI a1 v14_7).bind fun y18 =>
   if ((Option.isSome (Mp.get v0_2_9 y18.name)) || (!decide (vs_8.finder.e = (0 : Int)))) then
    some (vfound_6, (check_solver.mk vs_8.finder v0_2_9), v0_2_9)
   else
    (f_check_solver_of (check_solver.mk vs_8.finder v0_2_9) y18.e).bind fun y24 =>
    (if y24.1.2 then
     (putO y24.2.known y18.name y24.1.1).bind fun y32 =>
     some (true, (check_solver.mk y24.2.finder y32), y32)
    else
     some (vfound_6, (check_solver.mk y24.2.finder y24.2.known), y24.2.known) : Option (Bool × check_solver × (Mp Clock))).bind fun (vfound_28, vs_29, v0_2_30) =>
    some (vfound_28, (check_solver.mk vs_29.finder v0_2_30), v0_2_30) : Option (Bool × check_solver × (Mp Clock))).bind fun (vfound_15, vs_16, v0_2_17) =>
   some (.inl (vfound_15, (IntKind.i64.wrap (v14_7 + (1 : Int))), (check_solver.mk vs_16.finder v0_2_17), v0_2_17))
  else
   some (.inr (vfound_6, (check_solver.mk vs_8.finder v0_2_9), v0_2_9))
noncomputable def B_check_solver_round (f_check_solver_of : check_solver → Expr → Option ((Clock × Bool) × check_solver)) (a0 : check_solver) (a1 : (List Flow)) : Option (Bool × check_solver) :=
 (iterO (check_solver_round_L0 a1 f_check_solver_of) (false, (0 : Int), (check_solver.mk a0.finder a0.known), a0.known) : Option (Bool × check_solver × (Mp Clock))).bind fun (vfound_3, vs_4, v0_2_5) =>
 some (vfound_3, (check_solver.mk vs_4.finder v0_2_5))
abbrev check_solver_round_V0 : Clock → PV := fun v : Clock => (PV.ag [(.v (.int .i64 v.period)), (.v (.int .i64 v.phase))])
theorem W_check_solver_round (f_check_solver_of : check_solver → Expr → Option ((Clock × Bool) × check_solver)) (S_check_solver_of : Sat_check_solver_of f_check_solver_of) : Sat_check_solver_round (B_check_solver_round f_check_solver_of) := by
 intro a0 a1 r h σ K j0 j0_2 H0 H0_2 hK
 refine w_fq (Q := fun r s => ∃ l : List (Nat × AObj), (l.map (·.1)).Nodup ∧ (∀ x ∈ l, x.1 < σ.length ∧ ClO σ.length x.2) ∧ Pq σ l K r s) Try.func53 rfl rfl (by kernel_rfl) (fun _ _ h => h) ?_
 unfold B_check_solver_round at h
 have hP := Pre.refl σ
 have jl0 := H0.lt
 have jl0_2 := H0_2.lt
 have hF := Fr.refl σ [j0, j0_2]
 have E0 : argE [(.pt j0 0), (.sl (List.map Flow.cl a1))] 0 = (.pt j0 0) := rfl
 have E1 : argE [(.pt j0 0), (.sl (List.map Flow.cl a1))] 1 = (.sl (List.map Flow.cl a1)) := rfl
 have TT := cj14 Expr.rlen T_106 T_120 T_121 T_123 T_2 T_24 T_3 T_30 T_37 T_39 T_41 T_43 T_9
 refine w_sa (fun e s => ∃ τ : Store, Gx s j0 (AObj.box 123 [(.v (.int .i64 a0.finder.at_)), (.v (.int .i64 a0.finder.e)), (.mp j0_2)]) ∧ Gx s j0_2 (AObj.map .s (mpF check_solver_round_V0 (Mp.get a0.known)) (Mp.n a0.known)) ∧ e 0 = (.pt j0 0) ∧ e 1 = (.sl (List.map Flow.cl a1)) ∧ Fr σ τ [j0, j0_2] ∧ Pre τ s) ?_ fun e s hI => ?_
 ·refine w_x (cj5 E0 E1 H0.get H0_2.get TT) (k := ?_)
  have q1 := cj5 E0 E1 H0.get H0_2.get TT
  exact cw_n ⟨_, WkE.refl _, σ, H0, H0_2, (xv q1), (xv q1), hF, hP⟩
 obtain ⟨τ, X0, X0_2, E0, E1, hF, hP⟩ := hI
 refine w_sa (fun e s => ∃ τ : Store, Gx s j0 (AObj.box 123 [(.v (.int .i64 a0.finder.at_)), (.v (.int .i64 a0.finder.e)), (.mp j0_2)]) ∧ Gx s j0_2 (AObj.map .s (mpF check_solver_round_V0 (Mp.get a0.known)) (Mp.n a0.known)) ∧ e 0 = (.pt j0 0) ∧ e 1 = (.sl (List.map Flow.cl a1)) ∧ e 5 = (.v (.bool false)) ∧ Fr σ τ [j0, j0_2] ∧ Pre τ s) ?_ fun e s hI => ?_
 ·refine w_x (cj5 E0 E1 X0.get X0_2.get TT) (k := ?_)
  have q2 := cj5 E0 E1 X0.get X0_2.get TT
  exact cw_n ⟨_, WkE.refl _, τ, X0, X0_2, (xv q2), (xv q2), (xv q2), hF, hP⟩
 obtain ⟨τ, X0, X0_2, E0, E1, E5, hF, hP⟩ := hI
 refine w_assoc ?_
 refine w_sa (fun e s => ∃ τ : Store, Gx s j0 (AObj.box 123 [(.v (.int .i64 a0.finder.at_)), (.v (.int .i64 a0.finder.e)), (.mp j0_2)]) ∧ Gx s j0_2 (AObj.map .s (mpF check_solver_round_V0 (Mp.get a0.known)) (Mp.n a0.known)) ∧ e 0 = (.pt j0 0) ∧ e 5 = (.v (.bool false)) ∧ e 12 = (.sl (List.map Flow.cl a1)) ∧ e 13 = (.v (.int .i64 ((List.length a1 : Nat) : Int))) ∧ e 14 = (.v (.int .i64 (0 : Int))) ∧ Fr σ τ [j0, j0_2] ∧ Pre τ s) ?_ fun e s hI => ?_
 ·refine w_x (cj6 E0 E1 E5 X0.get X0_2.get TT) (k := ?_)
  have q3 := cj6 E0 E1 E5 X0.get X0_2.get TT
  exact cw_n ⟨_, WkE.refl _, τ, X0, X0_2, (xv q3), (xv q3), (xv q3), (xv q3), (xv q3), hF, hP⟩
 obtain ⟨τ, X0, X0_2, E0, E5, E12, E13, E14, hF, hP⟩ := hI
 obtain ⟨x1, h2, h⟩ := bnd_some h
 refine w_sa (fun e s => ∃ vfound_3 : Bool, ∃ vs_4 : check_solver, ∃ v0_2_5 : (Mp Clock), ∃ τ : Store, (vfound_3, vs_4, v0_2_5) = x1 ∧ Gx s j0 (AObj.box 123 [(.v (.int .i64 vs_4.finder.at_)), (.v (.int .i64 vs_4.finder.e)), (.mp j0_2)]) ∧ Gx s j0_2 (AObj.map .s (mpF check_solver_round_V0 (Mp.get v0_2_5)) (Mp.n v0_2_5)) ∧ e 5 = (.v (.bool vfound_3)) ∧ Fr σ τ [j0, j0_2] ∧ Pre τ s) ?_ fun e s hI => ?_
 ·refine w_block ?_
  have q4 := cj5 E0 E5 E12 E13 E14
  refine w_iter h2 (fun v e s => ∃ vfound_6 : Bool, ∃ v14_7 : Int, ∃ vs_8 : check_solver, ∃ v0_2_9 : (Mp Clock), ∃ τ : Store, (vfound_6, v14_7, vs_8, v0_2_9) = v ∧ Gx s j0 (AObj.box 123 [(.v (.int .i64 vs_8.finder.at_)), (.v (.int .i64 vs_8.finder.e)), (.mp j0_2)]) ∧ Gx s j0_2 (AObj.map .s (mpF check_solver_round_V0 (Mp.get v0_2_9)) (Mp.n v0_2_9)) ∧ e 0 = (.pt j0 0) ∧ e 5 = (.v (.bool vfound_6)) ∧ e 12 = (.sl (List.map Flow.cl a1)) ∧ e 13 = (.v (.int .i64 ((List.length a1 : Nat) : Int))) ∧ e 14 = (.v (.int .i64 v14_7)) ∧ Fr σ τ [j0, j0_2] ∧ Pre τ s) ⟨_, WkE.refl _, _, _, _, _, τ, rfl, X0, X0_2, (xv q4), (xv q4), (xv q4), (xv q4), (xv q4), hF, hP⟩ fun v x10 e s hf11 hI => ?_
  obtain ⟨vfound_6, v14_7, vs_8, v0_2_9, τ, rfl, X0, X0_2, E0, E5, E12, E13, E14, hF, hP⟩ := hI
  unfold check_solver_round_L0 at hf11
  try dsimp only at hf11
  refine w_sa (fun e s => ∃ τ : Store, Gx s j0 (AObj.box 123 [(.v (.int .i64 vs_8.finder.at_)), (.v (.int .i64 vs_8.finder.e)), (.mp j0_2)]) ∧ Gx s j0_2 (AObj.map .s (mpF check_solver_round_V0 (Mp.get v0_2_9)) (Mp.n v0_2_9)) ∧ e 0 = (.pt j0 0) ∧ e 5 = (.v (.bool vfound_6)) ∧ e 12 = (.sl (List.map Flow.cl a1)) ∧ e 13 = (.v (.int .i64 ((List.length a1 : Nat) : Int))) ∧ e 14 = (.v (.int .i64 v14_7)) ∧ e 15 = (.v (.bool (decide (v14_7 < ((List.length a1 : Nat) : Int))))) ∧ Fr σ τ [j0, j0_2] ∧ Pre τ s) ?_ fun e s hI => ?_
  ·refine w_x (cj8 E0 E5 E12 E13 E14 X0.get X0_2.get TT) (k := ?_)
   have q5 := cj8 E0 E5 E12 E13 E14 X0.get X0_2.get TT
   exact cw_n ⟨_, WkE.refl _, τ, X0, X0_2, (xv q5), (xv q5), (xv q5), (xv q5), (xv q5), (xv q5), hF, hP⟩
  obtain ⟨τ, X0, X0_2, E0, E5, E12, E13, E14, E15, hF, hP⟩ := hI
  refine w_seq ?_
  rcases ite_some hf11 with ⟨hb12, hf11⟩ | ⟨hb12, hf11⟩
  ·refine xt (cj7 E0 E5 E12 E13 E14 E15 hb12) ?_
   refine w_skip ?_
   refine w_sq ?_
   obtain ⟨x13, h14, hf11⟩ := bnd_some hf11
   refine w_sa (fun e s => ∃ vfound_15 : Bool, ∃ vs_16 : check_solver, ∃ v0_2_17 : (Mp Clock), ∃ τ : Store, (vfound_15, vs_16, v0_2_17) = x13 ∧ Gx s j0 (AObj.box 123 [(.v (.int .i64 vs_16.finder.at_)), (.v (.int .i64 vs_16.finder.e)), (.mp j0_2)]) ∧ Gx s j0_2 (AObj.map .s (mpF check_solver_round_V0 (Mp.get v0_2_17)) (Mp.n v0_2_17)) ∧ e 0 = (.pt j0 0) ∧ e 5 = (.v (.bool vfound_15)) ∧ e 12 = (.sl (List.map Flow.cl a1)) ∧ e 13 = (.v (.int .i64 ((List.length a1 : Nat) : Int))) ∧ e 14 = (.v (.int .i64 v14_7)) ∧ Fr σ τ [j0, j0_2] ∧ Pre τ s) ?_ fun e s hI => ?_
   ·refine w_block ?_
    obtain ⟨y18, h19, h14⟩ := bnd_some h14
    refine w_sa (fun e s => ∃ i7 : Nat, ∃ τ : Store, Gx s j0 (AObj.box 123 [(.v (.int .i64 vs_8.finder.at_)), (.v (.int .i64 vs_8.finder.e)), (.mp j0_2)]) ∧ Gx s j0_2 (AObj.map .s (mpF check_solver_round_V0 (Mp.get v0_2_9)) (Mp.n v0_2_9)) ∧ Bx σ s i7 41 [(.v (.string y18.name)), (.v (.int .i64 y18.e.kind)), (.v (.string y18.e.name)), (.v (.int .i64 y18.e.n)), (.v (.int .i64 y18.e.d)), (.sl (Expr.rows y18.e.args)), (.v (.int .i64 y18.e.at_)), (.v (.int .i64 y18.at_))] ∧ e 0 = (.pt j0 0) ∧ e 5 = (.v (.bool vfound_6)) ∧ e 7 = (.pt i7 0) ∧ e 12 = (.sl (List.map Flow.cl a1)) ∧ e 13 = (.v (.int .i64 ((List.length a1 : Nat) : Int))) ∧ e 14 = (.v (.int .i64 v14_7)) ∧ j0 ≠ i7 ∧ Fr σ τ [j0, j0_2] ∧ Pre τ s) ?_ fun e s hI => ?_
    ·have R20 : (List.map Flow.cl a1)[(v14_7).toNat]? = some [(.v (.string y18.name)), (.v (.int .i64 y18.e.kind)), (.v (.string y18.e.name)), (.v (.int .i64 y18.e.n)), (.v (.int .i64 y18.e.d)), (.sl (Expr.rows y18.e.args)), (.v (.int .i64 y18.e.at_)), (.v (.int .i64 y18.at_))] := map_get (getI_some h19).2
     refine w_x (cj15 E0 E5 E12 E13 E14 E15 X0.get X0.any X0.any2 X0_2.get X0_2.any X0_2.any2 R20 (getI_some h19).1 TT) (k := ?_)
     have q6 := cj15 E0 E5 E12 E13 E14 E15 X0.get X0.any X0.any2 X0_2.get X0_2.any X0_2.any2 R20 (getI_some h19).1 TT
     exact cw_n ⟨_, WkE.refl _, s.length, τ, (X0.app [some (AObj.box 41 [(.v (.string y18.name)), (.v (.int .i64 y18.e.kind)), (.v (.string y18.e.name)), (.v (.int .i64 y18.e.n)), (.v (.int .i64 y18.e.d)), (.sl (Expr.rows y18.e.args)), (.v (.int .i64 y18.e.at_)), (.v (.int .i64 y18.at_))])]), (X0_2.app [some (AObj.box 41 [(.v (.string y18.name)), (.v (.int .i64 y18.e.kind)), (.v (.string y18.e.name)), (.v (.int .i64 y18.e.n)), (.v (.int .i64 y18.e.d)), (.sl (Expr.rows y18.e.args)), (.v (.int .i64 y18.e.at_)), (.v (.int .i64 y18.at_))])]), (Bx.newf hF hP 41 [(.v (.string y18.name)), (.v (.int .i64 y18.e.kind)), (.v (.string y18.e.name)), (.v (.int .i64 y18.e.n)), (.v (.int .i64 y18.e.d)), (.sl (Expr.rows y18.e.args)), (.v (.int .i64 y18.e.at_)), (.v (.int .i64 y18.at_))]), (xv q6), (xv q6), (xv q6), (xv q6), (xv q6), (xv q6), (Nat.ne_of_lt X0.lt), hF, (hP.app _)⟩
    obtain ⟨i7, τ, X0, X0_2, X7, E0, E5, E7, E12, E13, E14, N0__7, hF, hP⟩ := hI
    refine w_assoc ?_
    refine w_sa (fun e s => ∃ τ : Store, Gx s j0 (AObj.box 123 [(.v (.int .i64 vs_8.finder.at_)), (.v (.int .i64 vs_8.finder.e)), (.mp j0_2)]) ∧ Gx s j0_2 (AObj.map .s (mpF check_solver_round_V0 (Mp.get v0_2_9)) (Mp.n v0_2_9)) ∧ Bx σ s i7 41 [(.v (.string y18.name)), (.v (.int .i64 y18.e.kind)), (.v (.string y18.e.name)), (.v (.int .i64 y18.e.n)), (.v (.int .i64 y18.e.d)), (.sl (Expr.rows y18.e.args)), (.v (.int .i64 y18.e.at_)), (.v (.int .i64 y18.at_))] ∧ e 0 = (.pt j0 0) ∧ e 5 = (.v (.bool vfound_6)) ∧ e 7 = (.pt i7 0) ∧ e 9 = (.v (.bool (Option.isSome (Mp.get v0_2_9 y18.name)))) ∧ e 12 = (.sl (List.map Flow.cl a1)) ∧ e 13 = (.v (.int .i64 ((List.length a1 : Nat) : Int))) ∧ e 14 = (.v (.int .i64 v14_7)) ∧ j0 ≠ i7 ∧ Fr σ τ [j0, j0_2] ∧ Pre τ s) ?_ fun e s hI => ?_
    ·have R21 : Option.getD (Option.map check_solver_round_V0 (Mp.get v0_2_9 y18.name)) (.ag [(.v (.int .i64 (0 : Int))), (.v (.int .i64 (0 : Int)))]) = (.ag [(.v (.int .i64 ((Option.getD (Mp.get v0_2_9 y18.name) (Clock.mk (0 : Int) (0 : Int))).period))), (.v (.int .i64 ((Option.getD (Mp.get v0_2_9 y18.name) (Clock.mk (0 : Int) (0 : Int))).phase)))]) := by cases Mp.get v0_2_9 y18.name <;> rfl
     refine w_xd 12 1 (cj2 E0 (cj20 E5 E7 E12 E13 E14 X0.get X0.any X0.any2 X0_2.get X0_2.any X0_2.any2 X7.get X7.any X7.any2 R21 (X0.app [some (AObj.box 43 [(.v (.int .i64 ((Option.getD (Mp.get v0_2_9 y18.name) (Clock.mk (0 : Int) (0 : Int))).period))), (.v (.int .i64 ((Option.getD (Mp.get v0_2_9 y18.name) (Clock.mk (0 : Int) (0 : Int))).phase)))])]).get (X0_2.app [some (AObj.box 43 [(.v (.int .i64 ((Option.getD (Mp.get v0_2_9 y18.name) (Clock.mk (0 : Int) (0 : Int))).period))), (.v (.int .i64 ((Option.getD (Mp.get v0_2_9 y18.name) (Clock.mk (0 : Int) (0 : Int))).phase)))])]).get (X7.app [some (AObj.box 43 [(.v (.int .i64 ((Option.getD (Mp.get v0_2_9 y18.name) (Clock.mk (0 : Int) (0 : Int))).period))), (.v (.int .i64 ((Option.getD (Mp.get v0_2_9 y18.name) (Clock.mk (0 : Int) (0 : Int))).phase)))])]).get (Bx.atf hF hP (l := [some (AObj.box 43 [(.v (.int .i64 ((Option.getD (Mp.get v0_2_9 y18.name) (Clock.mk (0 : Int) (0 : Int))).period))), (.v (.int .i64 ((Option.getD (Mp.get v0_2_9 y18.name) (Clock.mk (0 : Int) (0 : Int))).phase)))])]) (j := 0) (t := 43) (c := [(.v (.int .i64 ((Option.getD (Mp.get v0_2_9 y18.name) (Clock.mk (0 : Int) (0 : Int))).period))), (.v (.int .i64 ((Option.getD (Mp.get v0_2_9 y18.name) (Clock.mk (0 : Int) (0 : Int))).phase)))]) rfl).get TT)) (hk := ?_)
     refine w_xs (cj2 E0 (cj20 E5 E7 E12 E13 E14 X0.get X0.any X0.any2 X0_2.get X0_2.any X0_2.any2 X7.get X7.any X7.any2 R21 (X0.app [some (AObj.box 43 [(.v (.int .i64 ((Option.getD (Mp.get v0_2_9 y18.name) (Clock.mk (0 : Int) (0 : Int))).period))), (.v (.int .i64 ((Option.getD (Mp.get v0_2_9 y18.name) (Clock.mk (0 : Int) (0 : Int))).phase)))])]).get (X0_2.app [some (AObj.box 43 [(.v (.int .i64 ((Option.getD (Mp.get v0_2_9 y18.name) (Clock.mk (0 : Int) (0 : Int))).period))), (.v (.int .i64 ((Option.getD (Mp.get v0_2_9 y18.name) (Clock.mk (0 : Int) (0 : Int))).phase)))])]).get (X7.app [some (AObj.box 43 [(.v (.int .i64 ((Option.getD (Mp.get v0_2_9 y18.name) (Clock.mk (0 : Int) (0 : Int))).period))), (.v (.int .i64 ((Option.getD (Mp.get v0_2_9 y18.name) (Clock.mk (0 : Int) (0 : Int))).phase)))])]).get (Bx.atf hF hP (l := [some (AObj.box 43 [(.v (.int .i64 ((Option.getD (Mp.get v0_2_9 y18.name) (Clock.mk (0 : Int) (0 : Int))).period))), (.v (.int .i64 ((Option.getD (Mp.get v0_2_9 y18.name) (Clock.mk (0 : Int) (0 : Int))).phase)))])]) (j := 0) (t := 43) (c := [(.v (.int .i64 ((Option.getD (Mp.get v0_2_9 y18.name) (Clock.mk (0 : Int) (0 : Int))).period))), (.v (.int .i64 ((Option.getD (Mp.get v0_2_9 y18.name) (Clock.mk (0 : Int) (0 : Int))).phase)))]) rfl).get TT)) (k := ?_)
     have q7 := X0.app [some (AObj.box 43 [(.v (.int .i64 ((Option.getD (Mp.get v0_2_9 y18.name) (Clock.mk (0 : Int) (0 : Int))).period))), (.v (.int .i64 ((Option.getD (Mp.get v0_2_9 y18.name) (Clock.mk (0 : Int) (0 : Int))).phase)))])]
     have q8 := X7.app [some (AObj.box 43 [(.v (.int .i64 ((Option.getD (Mp.get v0_2_9 y18.name) (Clock.mk (0 : Int) (0 : Int))).period))), (.v (.int .i64 ((Option.getD (Mp.get v0_2_9 y18.name) (Clock.mk (0 : Int) (0 : Int))).phase)))])]
     have q9 := Bx.atf hF hP (l := [some (AObj.box 43 [(.v (.int .i64 ((Option.getD (Mp.get v0_2_9 y18.name) (Clock.mk (0 : Int) (0 : Int))).period))), (.v (.int .i64 ((Option.getD (Mp.get v0_2_9 y18.name) (Clock.mk (0 : Int) (0 : Int))).phase)))])]) (j := 0) (t := 43) (c := [(.v (.int .i64 ((Option.getD (Mp.get v0_2_9 y18.name) (Clock.mk (0 : Int) (0 : Int))).period))), (.v (.int .i64 ((Option.getD (Mp.get v0_2_9 y18.name) (Clock.mk (0 : Int) (0 : Int))).phase)))]) rfl
     have q10 := cj20 E5 E7 E12 E13 E14 X0.get X0.any X0.any2 X0_2.get X0_2.any X0_2.any2 X7.get X7.any X7.any2 R21 q7.get (X0_2.app [some (AObj.box 43 [(.v (.int .i64 ((Option.getD (Mp.get v0_2_9 y18.name) (Clock.mk (0 : Int) (0 : Int))).period))), (.v (.int .i64 ((Option.getD (Mp.get v0_2_9 y18.name) (Clock.mk (0 : Int) (0 : Int))).phase)))])]).get q8.get q9.get TT
     exact cw_n ⟨_, WkE.refl _, τ, q7, (X0_2.app [some (AObj.box 43 [(.v (.int .i64 ((Option.getD (Mp.get v0_2_9 y18.name) (Clock.mk (0 : Int) (0 : Int))).period))), (.v (.int .i64 ((Option.getD (Mp.get v0_2_9 y18.name) (Clock.mk (0 : Int) (0 : Int))).phase)))])]), q8, (xv (cj2 E0 q10)), (xv (cj2 E0 q10)), (xv (cj2 E0 q10)), (xv (cj2 E0 q10)), (xv (cj2 E0 q10)), (xv (cj2 E0 q10)), (xv (cj2 E0 q10)), N0__7, hF, (hP.app [some (AObj.box 43 [(.v (.int .i64 ((Option.getD (Mp.get v0_2_9 y18.name) (Clock.mk (0 : Int) (0 : Int))).period))), (.v (.int .i64 ((Option.getD (Mp.get v0_2_9 y18.name) (Clock.mk (0 : Int) (0 : Int))).phase)))])])⟩
    obtain ⟨τ, X0, X0_2, X7, E0, E5, E7, E9, E12, E13, E14, N0__7, hF, hP⟩ := hI
    refine w_assoc ?_
    refine w_sa (fun e s => ∃ τ : Store, Gx s j0 (AObj.box 123 [(.v (.int .i64 vs_8.finder.at_)), (.v (.int .i64 vs_8.finder.e)), (.mp j0_2)]) ∧ Gx s j0_2 (AObj.map .s (mpF check_solver_round_V0 (Mp.get v0_2_9)) (Mp.n v0_2_9)) ∧ Bx σ s i7 41 [(.v (.string y18.name)), (.v (.int .i64 y18.e.kind)), (.v (.string y18.e.name)), (.v (.int .i64 y18.e.n)), (.v (.int .i64 y18.e.d)), (.sl (Expr.rows y18.e.args)), (.v (.int .i64 y18.e.at_)), (.v (.int .i64 y18.at_))] ∧ e 0 = (.pt j0 0) ∧ e 5 = (.v (.bool vfound_6)) ∧ e 7 = (.pt i7 0) ∧ e 12 = (.sl (List.map Flow.cl a1)) ∧ e 13 = (.v (.int .i64 ((List.length a1 : Nat) : Int))) ∧ e 14 = (.v (.int .i64 v14_7)) ∧ e 36 = (.v (.bool ((Option.isSome (Mp.get v0_2_9 y18.name)) || (!decide (vs_8.finder.e = (0 : Int)))))) ∧ j0 ≠ i7 ∧ Fr σ τ [j0, j0_2] ∧ Pre τ s) ?_ fun e s hI => ?_
    ·cases hb22 : (Option.isSome (Mp.get v0_2_9 y18.name))
     ·refine w_x (cj12 E0 E5 E7 E9 E12 E13 E14 X0.get X0_2.get X7.get hb22 TT) (k := ?_)
      have q11 := cj12 E0 E5 E7 E9 E12 E13 E14 X0.get X0_2.get X7.get hb22 TT
      exact cw_n ⟨_, WkE.refl _, τ, X0, X0_2, X7, (xv q11), (xv q11), (xv q11), (xv q11), (xv q11), (xv q11), (xv q11), N0__7, hF, hP⟩
     ·refine w_x (cj12 E0 E5 E7 E9 E12 E13 E14 X0.get X0_2.get X7.get hb22 TT) (k := ?_)
      have q12 := cj12 E0 E5 E7 E9 E12 E13 E14 X0.get X0_2.get X7.get hb22 TT
      exact cw_n ⟨_, WkE.refl _, τ, X0, X0_2, X7, (xv q12), (xv q12), (xv q12), (xv q12), (xv q12), (xv q12), (xv q12), N0__7, hF, hP⟩
    obtain ⟨τ, X0, X0_2, X7, E0, E5, E7, E12, E13, E14, E36, N0__7, hF, hP⟩ := hI
    refine w_seq ?_
    rcases ite_some h14 with ⟨hb23, h14⟩ | ⟨hb23, h14⟩
    ·refine xt (cj8 E0 E5 E7 E12 E13 E14 E36 hb23) ?_
     refine w_exit ?_
     refine w_sqx ?_
     refine w_bkx ?_
     obtain rfl := some_inj h14
     have q13 := cj7 E0 E5 E7 E12 E13 E14 E36
     exact cw_n ⟨_, WkE.refl _, _, _, _, τ, rfl, X0, X0_2, (xv q13), (xv q13), (xv q13), (xv q13), (xv q13), hF, hP⟩
    ·refine xf (cj8 E0 E5 E7 E12 E13 E14 E36 hb23) ?_
     refine w_skip ?_
     refine w_sq ?_
     obtain ⟨y24, h25, h14⟩ := bnd_some h14
     refine w_sa (fun e s => ∃ i10 : Nat, ∃ τ : Store, Gx s j0 (AObj.box 123 [(.v (.int .i64 y24.2.finder.at_)), (.v (.int .i64 y24.2.finder.e)), (.mp j0_2)]) ∧ Gx s j0_2 (AObj.map .s (mpF check_solver_round_V0 (Mp.get y24.2.known)) (Mp.n y24.2.known)) ∧ Bx σ s i10 43 [(.v (.int .i64 y24.1.1.period)), (.v (.int .i64 y24.1.1.phase))] ∧ Bx σ s i7 41 [(.v (.string y18.name)), (.v (.int .i64 y18.e.kind)), (.v (.string y18.e.name)), (.v (.int .i64 y18.e.n)), (.v (.int .i64 y18.e.d)), (.sl (Expr.rows y18.e.args)), (.v (.int .i64 y18.e.at_)), (.v (.int .i64 y18.at_))] ∧ e 0 = (.pt j0 0) ∧ e 5 = (.v (.bool vfound_6)) ∧ e 7 = (.pt i7 0) ∧ e 10 = (.pt i10 0) ∧ e 11 = (.v (.bool y24.1.2)) ∧ e 12 = (.sl (List.map Flow.cl a1)) ∧ e 13 = (.v (.int .i64 ((List.length a1 : Nat) : Int))) ∧ e 14 = (.v (.int .i64 v14_7)) ∧ j0 ≠ i10 ∧ j0 ≠ i7 ∧ Fr σ τ [j0, j0_2] ∧ Pre τ s) ?_ fun e s hI => ?_
     ·have q14 := Gx.apart X0 X0_2 (by intro h; cases h)
      have q15 := Gx.same X0 (AObj.box 123 [(.v (.int .i64 y24.2.finder.at_)), (.v (.int .i64 y24.2.finder.e)), (.mp j0_2)])
      have q16 := X7.ne N0__7 (some (AObj.box 123 [(.v (.int .i64 y24.2.finder.at_)), (.v (.int .i64 y24.2.finder.e)), (.mp j0_2)]))
      refine w_x (cj4 E0 E5 E7 (cj20 E12 E13 E14 E36 X0.get X0.any X0.any2 X0_2.get X0_2.any X0_2.any2 X7.get X7.any X7.any2 q15.get (X0_2.ne q14 (some (AObj.box 123 [(.v (.int .i64 y24.2.finder.at_)), (.v (.int .i64 y24.2.finder.e)), (.mp j0_2)]))).get q16.get (q15.ne (Gx.apart (X0_2.ne q14 (some (AObj.box 123 [(.v (.int .i64 y24.2.finder.at_)), (.v (.int .i64 y24.2.finder.e)), (.mp j0_2)]))) q15 (by intro h; cases h)) (some (AObj.map .s (mpF check_solver_round_V0 (Mp.get y24.2.known)) (Mp.n y24.2.known)))).get (Gx.same (X0_2.ne q14 (some (AObj.box 123 [(.v (.int .i64 y24.2.finder.at_)), (.v (.int .i64 y24.2.finder.e)), (.mp j0_2)]))) (AObj.map .s (mpF check_solver_round_V0 (Mp.get y24.2.known)) (Mp.n y24.2.known))).get (q16.ne (Gx.apart (X0_2.ne q14 (some (AObj.box 123 [(.v (.int .i64 y24.2.finder.at_)), (.v (.int .i64 y24.2.finder.e)), (.mp j0_2)]))) q16.gx (by intro h; cases h)) (some (AObj.map .s (mpF check_solver_round_V0 (Mp.get y24.2.known)) (Mp.n y24.2.known)))).get TT)) (k := ?_)
      refine EC.wka (.cons (.refl _) (.cons (.refl _) .nil)) (S_check_solver_of _ _ _ h25 _ _ _ _ X0 X0_2 ?_)
      have q17 := Gx.apart X0 X0_2 (by intro h; cases h)
      have q18 := Gx.same X0 (AObj.box 123 [(.v (.int .i64 y24.2.finder.at_)), (.v (.int .i64 y24.2.finder.e)), (.mp j0_2)])
      have q19 := X7.ne N0__7 (some (AObj.box 123 [(.v (.int .i64 y24.2.finder.at_)), (.v (.int .i64 y24.2.finder.e)), (.mp j0_2)]))
      refine w_y (cj4 E0 E5 E7 (cj20 E12 E13 E14 E36 X0.get X0.any X0.any2 X0_2.get X0_2.any X0_2.any2 X7.get X7.any X7.any2 q18.get (X0_2.ne q17 (some (AObj.box 123 [(.v (.int .i64 y24.2.finder.at_)), (.v (.int .i64 y24.2.finder.e)), (.mp j0_2)]))).get q19.get (q18.ne (Gx.apart (X0_2.ne q17 (some (AObj.box 123 [(.v (.int .i64 y24.2.finder.at_)), (.v (.int .i64 y24.2.finder.e)), (.mp j0_2)]))) q18 (by intro h; cases h)) (some (AObj.map .s (mpF check_solver_round_V0 (Mp.get y24.2.known)) (Mp.n y24.2.known)))).get (Gx.same (X0_2.ne q17 (some (AObj.box 123 [(.v (.int .i64 y24.2.finder.at_)), (.v (.int .i64 y24.2.finder.e)), (.mp j0_2)]))) (AObj.map .s (mpF check_solver_round_V0 (Mp.get y24.2.known)) (Mp.n y24.2.known))).get (q19.ne (Gx.apart (X0_2.ne q17 (some (AObj.box 123 [(.v (.int .i64 y24.2.finder.at_)), (.v (.int .i64 y24.2.finder.e)), (.mp j0_2)]))) q19.gx (by intro h; cases h)) (some (AObj.map .s (mpF check_solver_round_V0 (Mp.get y24.2.known)) (Mp.n y24.2.known)))).get TT)) (k := ?_)
      have q20 := Gx.apart X0 X0_2 (by intro h; cases h)
      have q21 := Gx.same X0 (AObj.box 123 [(.v (.int .i64 y24.2.finder.at_)), (.v (.int .i64 y24.2.finder.e)), (.mp j0_2)])
      have q22 := X7.ne N0__7 (some (AObj.box 123 [(.v (.int .i64 y24.2.finder.at_)), (.v (.int .i64 y24.2.finder.e)), (.mp j0_2)]))
      have q23 := Gx.apart (X0_2.ne q20 (some (AObj.box 123 [(.v (.int .i64 y24.2.finder.at_)), (.v (.int .i64 y24.2.finder.e)), (.mp j0_2)]))) q21 (by intro h; cases h)
      have q24 := Gx.apart (X0_2.ne q20 (some (AObj.box 123 [(.v (.int .i64 y24.2.finder.at_)), (.v (.int .i64 y24.2.finder.e)), (.mp j0_2)]))) q22.gx (by intro h; cases h)
      have q25 := Gx.same (X0_2.ne q20 (some (AObj.box 123 [(.v (.int .i64 y24.2.finder.at_)), (.v (.int .i64 y24.2.finder.e)), (.mp j0_2)]))) (AObj.map .s (mpF check_solver_round_V0 (Mp.get y24.2.known)) (Mp.n y24.2.known))
      have q26 := cj20 E12 E13 E14 E36 X0.get X0.any X0.any2 X0_2.get X0_2.any X0_2.any2 X7.get X7.any X7.any2 q21.get (X0_2.ne q20 (some (AObj.box 123 [(.v (.int .i64 y24.2.finder.at_)), (.v (.int .i64 y24.2.finder.e)), (.mp j0_2)]))).get q22.get (q21.ne q23 (some (AObj.map .s (mpF check_solver_round_V0 (Mp.get y24.2.known)) (Mp.n y24.2.known)))).get q25.get (q22.ne q24 (some (AObj.map .s (mpF check_solver_round_V0 (Mp.get y24.2.known)) (Mp.n y24.2.known)))).get TT
      have q27 := cj4 E0 E5 E7 q26
      exact cw_n ⟨_, WkE.refl _, (List.set (List.set s j0 (some (AObj.box 123 [(.v (.int .i64 y24.2.finder.at_)), (.v (.int .i64 y24.2.finder.e)), (.mp j0_2)]))) j0_2 (some (AObj.map .s (mpF check_solver_round_V0 (Mp.get y24.2.known)) (Mp.n y24.2.known)))).length, (List.set (List.set τ j0 (some (AObj.box 123 [(.v (.int .i64 y24.2.finder.at_)), (.v (.int .i64 y24.2.finder.e)), (.mp j0_2)]))) j0_2 (some (AObj.map .s (mpF check_solver_round_V0 (Mp.get y24.2.known)) (Mp.n y24.2.known)))), ((q21.ne q23 (some (AObj.map .s (mpF check_solver_round_V0 (Mp.get y24.2.known)) (Mp.n y24.2.known)))).app [some (AObj.box 43 [(.v (.int .i64 y24.1.1.period)), (.v (.int .i64 y24.1.1.phase))])]), (q25.app [some (AObj.box 43 [(.v (.int .i64 y24.1.1.period)), (.v (.int .i64 y24.1.1.phase))])]), (Bx.newf ((hF.set (by simp) (some (AObj.box 123 [(.v (.int .i64 y24.2.finder.at_)), (.v (.int .i64 y24.2.finder.e)), (.mp j0_2)]))).set (by simp) (some (AObj.map .s (mpF check_solver_round_V0 (Mp.get y24.2.known)) (Mp.n y24.2.known)))) ((hP.setp (hF.lt jl0) (some (AObj.box 123 [(.v (.int .i64 y24.2.finder.at_)), (.v (.int .i64 y24.2.finder.e)), (.mp j0_2)]))).setp ((hF.set (by simp) (some (AObj.box 123 [(.v (.int .i64 y24.2.finder.at_)), (.v (.int .i64 y24.2.finder.e)), (.mp j0_2)]))).lt jl0_2) (some (AObj.map .s (mpF check_solver_round_V0 (Mp.get y24.2.known)) (Mp.n y24.2.known)))) 43 [(.v (.int .i64 y24.1.1.period)), (.v (.int .i64 y24.1.1.phase))]), ((q22.ne q24 (some (AObj.map .s (mpF check_solver_round_V0 (Mp.get y24.2.known)) (Mp.n y24.2.known)))).app [some (AObj.box 43 [(.v (.int .i64 y24.1.1.period)), (.v (.int .i64 y24.1.1.phase))])]), (xv q27), (xv q27), (xv q27), (xv q27), (xv q27), (xv q27), (xv q27), (xv q27), (Nat.ne_of_lt (q21.ne q23 (some (AObj.map .s (mpF check_solver_round_V0 (Mp.get y24.2.known)) (Mp.n y24.2.known)))).lt), N0__7, ((hF.set (by simp) (some (AObj.box 123 [(.v (.int .i64 y24.2.finder.at_)), (.v (.int .i64 y24.2.finder.e)), (.mp j0_2)]))).set (by simp) (some (AObj.map .s (mpF check_solver_round_V0 (Mp.get y24.2.known)) (Mp.n y24.2.known)))), (((hP.setp (hF.lt jl0) (some (AObj.box 123 [(.v (.int .i64 y24.2.finder.at_)), (.v (.int .i64 y24.2.finder.e)), (.mp j0_2)]))).setp ((hF.set (by simp) (some (AObj.box 123 [(.v (.int .i64 y24.2.finder.at_)), (.v (.int .i64 y24.2.finder.e)), (.mp j0_2)]))).lt jl0_2) (some (AObj.map .s (mpF check_solver_round_V0 (Mp.get y24.2.known)) (Mp.n y24.2.known)))).app _)⟩
     obtain ⟨i10, τ, X0, X0_2, X10, X7, E0, E5, E7, E10, E11, E12, E13, E14, N0__10, N0__7, hF, hP⟩ := hI
     refine w_sa (fun e s => ∃ τ : Store, Gx s j0 (AObj.box 123 [(.v (.int .i64 y24.2.finder.at_)), (.v (.int .i64 y24.2.finder.e)), (.mp j0_2)]) ∧ Gx s j0_2 (AObj.map .s (mpF check_solver_round_V0 (Mp.get y24.2.known)) (Mp.n y24.2.known)) ∧ Bx σ s i10 43 [(.v (.int .i64 y24.1.1.period)), (.v (.int .i64 y24.1.1.phase))] ∧ Bx σ s i7 41 [(.v (.string y18.name)), (.v (.int .i64 y18.e.kind)), (.v (.string y18.e.name)), (.v (.int .i64 y18.e.n)), (.v (.int .i64 y18.e.d)), (.sl (Expr.rows y18.e.args)), (.v (.int .i64 y18.e.at_)), (.v (.int .i64 y18.at_))] ∧ e 0 = (.pt j0 0) ∧ e 5 = (.v (.bool vfound_6)) ∧ e 7 = (.pt i7 0) ∧ e 10 = (.pt i10 0) ∧ e 12 = (.sl (List.map Flow.cl a1)) ∧ e 13 = (.v (.int .i64 ((List.length a1 : Nat) : Int))) ∧ e 14 = (.v (.int .i64 v14_7)) ∧ e 44 = (.v (.bool y24.1.2)) ∧ j0 ≠ i10 ∧ j0 ≠ i7 ∧ Fr σ τ [j0, j0_2] ∧ Pre τ s) ?_ fun e s hI => ?_
     ·refine w_x (cj13 E0 E5 E7 E10 E11 E12 E13 E14 X0.get X0_2.get X10.get X7.get TT) (k := ?_)
      have q28 := cj13 E0 E5 E7 E10 E11 E12 E13 E14 X0.get X0_2.get X10.get X7.get TT
      exact cw_n ⟨_, WkE.refl _, τ, X0, X0_2, X10, X7, (xv q28), (xv q28), (xv q28), (xv q28), (xv q28), (xv q28), (xv q28), (xv q28), N0__10, N0__7, hF, hP⟩
     obtain ⟨τ, X0, X0_2, X10, X7, E0, E5, E7, E10, E12, E13, E14, E44, N0__10, N0__7, hF, hP⟩ := hI
     obtain ⟨x26, h27, h14⟩ := bnd_some h14
     refine w_an (fun e s => ∃ vfound_28 : Bool, ∃ vs_29 : check_solver, ∃ v0_2_30 : (Mp Clock), ∃ τ : Store, (vfound_28, vs_29, v0_2_30) = x26 ∧ Gx s j0 (AObj.box 123 [(.v (.int .i64 vs_29.finder.at_)), (.v (.int .i64 vs_29.finder.e)), (.mp j0_2)]) ∧ Gx s j0_2 (AObj.map .s (mpF check_solver_round_V0 (Mp.get v0_2_30)) (Mp.n v0_2_30)) ∧ e 0 = (.pt j0 0) ∧ e 5 = (.v (.bool vfound_28)) ∧ e 12 = (.sl (List.map Flow.cl a1)) ∧ e 13 = (.v (.int .i64 ((List.length a1 : Nat) : Int))) ∧ e 14 = (.v (.int .i64 v14_7)) ∧ Fr σ τ [j0, j0_2] ∧ Pre τ s) ?_ fun e s hI => ?_
     ·rcases ite_some h27 with ⟨hb31, h27⟩ | ⟨hb31, h27⟩
      ·refine xt (cj9 E0 E5 E7 E10 E12 E13 E14 E44 hb31) ?_
       obtain ⟨y32, h33, h27⟩ := bnd_some h27
       refine w_sa (fun e s => ∃ τ : Store, Gx s j0 (AObj.box 123 [(.v (.int .i64 y24.2.finder.at_)), (.v (.int .i64 y24.2.finder.e)), (.mp j0_2)]) ∧ Gx s j0_2 (AObj.map .s (mpF check_solver_round_V0 (Mp.get y32)) (Mp.n y32)) ∧ e 0 = (.pt j0 0) ∧ e 12 = (.sl (List.map Flow.cl a1)) ∧ e 13 = (.v (.int .i64 ((List.length a1 : Nat) : Int))) ∧ e 14 = (.v (.int .i64 v14_7)) ∧ Fr σ τ [j0, j0_2] ∧ Pre τ s) ?_ fun e s hI => ?_
       ·refine w_xd 7 0 (cj18 E0 E5 E7 E10 E12 E13 E14 E44 X0.get X0_2.get X10.get X7.get (putO_some h33).1 (X0.ne (Gx.apart X0_2 X0 (by intro h; cases h)) (some (AObj.map .s (upm (mpF check_solver_round_V0 (Mp.get y24.2.known)) (.string y18.name) (.ag [(.v (.int .i64 y24.1.1.period)), (.v (.int .i64 y24.1.1.phase))])) (Mp.n y24.2.known + 1)))).get (Gx.cast (Gx.same X0_2 (AObj.map .s (upm (mpF check_solver_round_V0 (Mp.get y24.2.known)) (.string y18.name) (.ag [(.v (.int .i64 y24.1.1.period)), (.v (.int .i64 y24.1.1.phase))])) (Mp.n y24.2.known + 1))) (mpF_put (f := check_solver_round_V0) h33)).get (X10.ne (Gx.apart X0_2 X10.gx (by intro h; cases h)) (some (AObj.map .s (upm (mpF check_solver_round_V0 (Mp.get y24.2.known)) (.string y18.name) (.ag [(.v (.int .i64 y24.1.1.period)), (.v (.int .i64 y24.1.1.phase))])) (Mp.n y24.2.known + 1)))).get (X7.ne (Gx.apart X0_2 X7.gx (by intro h; cases h)) (some (AObj.map .s (upm (mpF check_solver_round_V0 (Mp.get y24.2.known)) (.string y18.name) (.ag [(.v (.int .i64 y24.1.1.period)), (.v (.int .i64 y24.1.1.phase))])) (Mp.n y24.2.known + 1)))).get TT) (hk := ?_)
        refine w_xs (cj18 E0 E5 E7 E10 E12 E13 E14 E44 X0.get X0_2.get X10.get X7.get (putO_some h33).1 (X0.ne (Gx.apart X0_2 X0 (by intro h; cases h)) (some (AObj.map .s (upm (mpF check_solver_round_V0 (Mp.get y24.2.known)) (.string y18.name) (.ag [(.v (.int .i64 y24.1.1.period)), (.v (.int .i64 y24.1.1.phase))])) (Mp.n y24.2.known + 1)))).get (Gx.cast (Gx.same X0_2 (AObj.map .s (upm (mpF check_solver_round_V0 (Mp.get y24.2.known)) (.string y18.name) (.ag [(.v (.int .i64 y24.1.1.period)), (.v (.int .i64 y24.1.1.phase))])) (Mp.n y24.2.known + 1))) (mpF_put (f := check_solver_round_V0) h33)).get (X10.ne (Gx.apart X0_2 X10.gx (by intro h; cases h)) (some (AObj.map .s (upm (mpF check_solver_round_V0 (Mp.get y24.2.known)) (.string y18.name) (.ag [(.v (.int .i64 y24.1.1.period)), (.v (.int .i64 y24.1.1.phase))])) (Mp.n y24.2.known + 1)))).get (X7.ne (Gx.apart X0_2 X7.gx (by intro h; cases h)) (some (AObj.map .s (upm (mpF check_solver_round_V0 (Mp.get y24.2.known)) (.string y18.name) (.ag [(.v (.int .i64 y24.1.1.period)), (.v (.int .i64 y24.1.1.phase))])) (Mp.n y24.2.known + 1)))).get TT) (k := ?_)
        have q29 := Gx.apart X0_2 X0 (by intro h; cases h)
        have q30 := Gx.apart X0_2 X7.gx (by intro h; cases h)
        have q31 := Gx.apart X0_2 X10.gx (by intro h; cases h)
        have q32 := Gx.same X0_2 (AObj.map .s (upm (mpF check_solver_round_V0 (Mp.get y24.2.known)) (.string y18.name) (.ag [(.v (.int .i64 y24.1.1.period)), (.v (.int .i64 y24.1.1.phase))])) (Mp.n y24.2.known + 1))
        have q33 := Gx.cast q32 (mpF_put (f := check_solver_round_V0) h33)
        have q34 := X0.ne q29 (some (AObj.map .s (upm (mpF check_solver_round_V0 (Mp.get y24.2.known)) (.string y18.name) (.ag [(.v (.int .i64 y24.1.1.period)), (.v (.int .i64 y24.1.1.phase))])) (Mp.n y24.2.known + 1)))
        have q35 := X7.ne q30 (some (AObj.map .s (upm (mpF check_solver_round_V0 (Mp.get y24.2.known)) (.string y18.name) (.ag [(.v (.int .i64 y24.1.1.period)), (.v (.int .i64 y24.1.1.phase))])) (Mp.n y24.2.known + 1)))
        have q36 := X10.ne q31 (some (AObj.map .s (upm (mpF check_solver_round_V0 (Mp.get y24.2.known)) (.string y18.name) (.ag [(.v (.int .i64 y24.1.1.period)), (.v (.int .i64 y24.1.1.phase))])) (Mp.n y24.2.known + 1)))
        have q37 := cj18 E0 E5 E7 E10 E12 E13 E14 E44 X0.get X0_2.get X10.get X7.get (putO_some h33).1 q34.get q33.get q36.get q35.get TT
        exact cw_n ⟨_, WkE.refl _, (List.set τ j0_2 (some (AObj.map .s (upm (mpF check_solver_round_V0 (Mp.get y24.2.known)) (.string y18.name) (.ag [(.v (.int .i64 y24.1.1.period)), (.v (.int .i64 y24.1.1.phase))])) (Mp.n y24.2.known + 1)))), q34, q33, (xv q37), (xv q37), (xv q37), (xv q37), (hF.set (by simp) (some (AObj.map .s (upm (mpF check_solver_round_V0 (Mp.get y24.2.known)) (.string y18.name) (.ag [(.v (.int .i64 y24.1.1.period)), (.v (.int .i64 y24.1.1.phase))])) (Mp.n y24.2.known + 1)))), (hP.setp (hF.lt jl0_2) (some (AObj.map .s (upm (mpF check_solver_round_V0 (Mp.get y24.2.known)) (.string y18.name) (.ag [(.v (.int .i64 y24.1.1.period)), (.v (.int .i64 y24.1.1.phase))])) (Mp.n y24.2.known + 1))))⟩
       obtain ⟨τ, X0, X0_2, E0, E12, E13, E14, hF, hP⟩ := hI
       refine w_x (cj7 E0 E12 E13 E14 X0.get X0_2.get TT) (k := ?_)
       obtain rfl := some_inj h27
       have q38 := cj7 E0 E12 E13 E14 X0.get X0_2.get TT
       exact ct_n ⟨_, _, _, τ, rfl, X0, X0_2, (xv q38), (xv q38), (xv q38), (xv q38), (xv q38), hF, hP⟩
      ·refine xf (cj9 E0 E5 E7 E10 E12 E13 E14 E44 hb31) ?_
       refine w_skip ?_
       obtain rfl := some_inj h27
       have q39 := cj8 E0 E5 E7 E10 E12 E13 E14 E44
       exact ct_n ⟨_, _, _, τ, rfl, X0, X0_2, (xv q39), (xv q39), (xv q39), (xv q39), (xv q39), hF, hP⟩
     obtain ⟨vfound_28, vs_29, v0_2_30, τ, rfl, X0, X0_2, E0, E5, E12, E13, E14, hF, hP⟩ := hI
     try dsimp only at h14
     refine w_bk ?_
     obtain rfl := some_inj h14
     have q40 := cj5 E0 E5 E12 E13 E14
     exact cw_n ⟨_, WkE.refl _, _, _, _, τ, rfl, X0, X0_2, (xv q40), (xv q40), (xv q40), (xv q40), (xv q40), hF, hP⟩
   obtain ⟨vfound_15, vs_16, v0_2_17, τ, rfl, X0, X0_2, E0, E5, E12, E13, E14, hF, hP⟩ := hI
   try dsimp only at hf11
   refine w_x (cj8 E0 E5 E12 E13 E14 X0.get X0_2.get TT) (k := ?_)
   obtain rfl := some_inj hf11
   have q41 := cj8 E0 E5 E12 E13 E14 X0.get X0_2.get TT
   exact iq_n rfl ⟨_, WkE.refl _, _, _, _, _, τ, rfl, X0, X0_2, (xv q41), (xv q41), (xv q41), (xv q41), (xv q41), hF, hP⟩
  ·refine xf (cj7 E0 E5 E12 E13 E14 E15 hb12) ?_
   refine w_exit ?_
   refine w_sqx ?_
   obtain rfl := some_inj hf11
   refine iq_x rfl fun hr34 => ?_
   obtain rfl := hr34
   refine w_bkx ?_
   exact cw_n ⟨_, WkE.refl _, _, _, _, τ, rfl, X0, X0_2, (xv (cj6 E0 E5 E12 E13 E14 E15)), hF, hP⟩
 obtain ⟨vfound_3, vs_4, v0_2_5, τ, rfl, X0, X0_2, E5, hF, hP⟩ := hI
 try dsimp only at h
 refine w_sa (fun e s => ∃ τ : Store, Gx s j0 (AObj.box 123 [(.v (.int .i64 vs_4.finder.at_)), (.v (.int .i64 vs_4.finder.e)), (.mp j0_2)]) ∧ Gx s j0_2 (AObj.map .s (mpF check_solver_round_V0 (Mp.get v0_2_5)) (Mp.n v0_2_5)) ∧ e 4 = (.v (.bool vfound_3)) ∧ Fr σ τ [j0, j0_2] ∧ Pre τ s) ?_ fun e s hI => ?_
 ·refine w_x (cj4 E5 X0.get X0_2.get TT) (k := ?_)
  exact cw_n ⟨_, WkE.refl _, τ, X0, X0_2, (xv (cj4 E5 X0.get X0_2.get TT)), hF, hP⟩
 obtain ⟨τ, X0, X0_2, E4, hF, hP⟩ := hI
 refine w_ret ?_
 obtain rfl := some_inj h
 have hn35 : (List.map (·.1) ([(j0, (AObj.box 123 [(.v (.int .i64 vs_4.finder.at_)), (.v (.int .i64 vs_4.finder.e)), (.mp j0_2)])), (j0_2, (AObj.map .s (mpF check_solver_round_V0 (Mp.get v0_2_5)) (Mp.n v0_2_5)))] : List (Nat × AObj))).Nodup := (List.nodup_cons.2 ⟨(by simp only [List.map_cons, List.map_nil, List.mem_cons, List.not_mem_nil, or_false, not_or]; exact (Gx.apart X0 X0_2 (by intro h; cases h))), (List.nodup_cons.2 ⟨(fun h => by simp at h), List.nodup_nil⟩)⟩)
 have he36 := Fr.eq (l := [(j0, (AObj.box 123 [(.v (.int .i64 vs_4.finder.at_)), (.v (.int .i64 vs_4.finder.e)), (.mp j0_2)])), (j0_2, (AObj.map .s (mpF check_solver_round_V0 (Mp.get v0_2_5)) (Mp.n v0_2_5)))]) hF hn35 (List.forall_mem_cons.2 ⟨⟨jl0, (Gx.back X0 hP (hF.lt jl0))⟩, (List.forall_mem_cons.2 ⟨⟨jl0_2, (Gx.back X0_2 hP (hF.lt jl0_2))⟩, (fun x hx => absurd hx (by simp))⟩)⟩)
 exact w_end (fun _ => rfl) (xr (rs := #[.tmp 4]) E4) ⟨[(j0, (AObj.box 123 [(.v (.int .i64 vs_4.finder.at_)), (.v (.int .i64 vs_4.finder.e)), (.mp j0_2)])), (j0_2, (AObj.map .s (mpF check_solver_round_V0 (Mp.get v0_2_5)) (Mp.n v0_2_5)))], hn35, (List.forall_mem_cons.2 ⟨⟨jl0, (ClO.bx (ClL.cons (Cn.cl (.v _) _) (ClL.cons (Cn.cl (.v _) _) (ClL.cons (Cl.mp jl0_2) ClL.nil))))⟩, (List.forall_mem_cons.2 ⟨⟨jl0_2, ((CnO.mp (fun _ => (.ag (CnL.cons (.v _) (CnL.cons (.v _) CnL.nil)))) _ _).cl _)⟩, (fun x hx => absurd hx (by simp))⟩)⟩), he36 ▸ hP, (.v (.bool vfound_3)), (.refl _), (.v _), hK⟩
noncomputable def check_solver_calls_L1 (a1 : Expr) (f_check_solver_calls : check_solver → Expr → Option (Unit × check_solver)) : (Int × check_solver × (Mp Clock)) → Option ((Int × check_solver × (Mp Clock)) ⊕ (check_solver × (Mp Clock)))
 | (v54_46, vs_47, v0_2_48) =>
  if (decide (v54_46 < ((List.length a1.args : Nat) : Int))) then
   ((getI a1.args v54_46).bind fun y56 =>
   (f_check_solver_calls (check_solver.mk vs_47.finder v0_2_48) y56).bind fun y59 =>
   some ((check_solver.mk y59.2.finder y59.2.known), y59.2.known) : Option (check_solver × (Mp Clock))).bind fun (vs_54, v0_2_55) =>
   some (.inl ((IntKind.i64.wrap (v54_46 + (1 : Int))), (check_solver.mk vs_54.finder v0_2_55), v0_2_55))
  else
   some (.inr ((check_solver.mk vs_47.finder v0_2_48), v0_2_48))
noncomputable def check_solver_calls_L0 (y11 : (List Expr)) (y8 : ((Clock × Bool) × check_solver)) (a1 : Expr) (f_check_finder_fail_in_check_solver : check_solver → Int → Int → Option (Unit × check_solver)) (f_check_solver_of : check_solver → Expr → Option ((Clock × Bool) × check_solver)) : (Int × check_solver × (Mp Clock)) → Option ((Int × check_solver × (Mp Clock)) ⊕ (check_solver × (Mp Clock)))
 | (v28_18, vs_19, v0_2_20) =>
  if (decide (v28_18 < ((List.length y11 : Nat) : Int))) then
   ((getI y11 v28_18).bind fun y28 =>
   (f_check_solver_of (check_solver.mk vs_19.finder v0_2_20) y28).bind fun y31 =>
   (if (y31.1.2 && (!(decide (y31.1.1.period = y8.1.1.period) && (decide (y31.1.1.phase = y8.1.1.phase))))) then
    (f_check_finder_fail_in_check_solver (check_solver.mk y31.2.finder y31.2.known) a1.at_ (5 : Int)).bind fun y39 =>
    some ((check_solver.mk y39.2.finder y39.2.known), y39.2.known)
   else
    some ((check_solver.mk y31.2.finder y31.2.known), y31.2.known) : Option (check_solver × (Mp Clock))).bind fun (vs_36, v0_2_37) =>
   some ((check_solver.mk vs_36.finder v0_2_37), v0_2_37) : Option (check_solver × (Mp Clock))).bind fun (vs_26, v0_2_27) =>
   some (.inl ((IntKind.i64.wrap (v28_18 + (1 : Int))), (check_solver.mk vs_26.finder v0_2_27), v0_2_27))
  else
   some (.inr ((check_solver.mk vs_19.finder v0_2_20), v0_2_20))
noncomputable def B_check_solver_calls (f_check_solver_calls : check_solver → Expr → Option (Unit × check_solver)) (f_check_solver_of : check_solver → Expr → Option ((Clock × Bool) × check_solver)) (f_check_finder_fail_in_check_solver : check_solver → Int → Int → Option (Unit × check_solver)) (a0 : check_solver) (a1 : Expr) : Option (Unit × check_solver) :=
 (if (decide (a1.kind = (2 : Int))) then
  (getI a1.args (0 : Int)).bind fun y6 =>
  (f_check_solver_of (check_solver.mk a0.finder a0.known) y6).bind fun y8 =>
  (subL a1.args (1 : Int) ((List.length a1.args : Nat) : Int)).bind fun y11 =>
  (iterO (check_solver_calls_L0 y11 y8 a1 f_check_finder_fail_in_check_solver f_check_solver_of) ((0 : Int), (check_solver.mk y8.2.finder y8.2.known), y8.2.known) : Option (check_solver × (Mp Clock))).bind fun (vs_16, v0_2_17) =>
  some ((check_solver.mk vs_16.finder v0_2_17), v0_2_17)
 else
  some ((check_solver.mk a0.finder a0.known), a0.known) : Option (check_solver × (Mp Clock))).bind fun (vs_3, v0_2_4) =>
 (iterO (check_solver_calls_L1 a1 f_check_solver_calls) ((0 : Int), (check_solver.mk vs_3.finder v0_2_4), v0_2_4) : Option (check_solver × (Mp Clock))).bind fun (vs_44, v0_2_45) =>
 some ((), (check_solver.mk vs_44.finder v0_2_45))
abbrev check_solver_calls_V0 : Clock → PV := fun v : Clock => (PV.ag [(.v (.int .i64 v.period)), (.v (.int .i64 v.phase))])
abbrev check_solver_calls_A0 (a1 : Expr) : List PV := [(.v (.int .i64 a1.kind)), (.v (.string a1.name)), (.v (.int .i64 a1.n)), (.v (.int .i64 a1.d)), (.sl (Expr.rows a1.args)), (.v (.int .i64 a1.at_))]
theorem W_check_solver_calls (f_check_solver_calls : check_solver → Expr → Option (Unit × check_solver)) (f_check_solver_of : check_solver → Expr → Option ((Clock × Bool) × check_solver)) (f_check_finder_fail_in_check_solver : check_solver → Int → Int → Option (Unit × check_solver)) (S_check_solver_calls : Sat_check_solver_calls f_check_solver_calls) (S_check_solver_of : Sat_check_solver_of f_check_solver_of) (S_check_finder_fail_in_check_solver : Sat_check_finder_fail_in_check_solver f_check_finder_fail_in_check_solver) : Sat_check_solver_calls (B_check_solver_calls f_check_solver_calls f_check_solver_of f_check_finder_fail_in_check_solver) := by
 intro a0 a1 r h σ K j0 j0_2 H0 H0_2 hK
 refine w_fq (Q := fun r s => ∃ l : List (Nat × AObj), (l.map (·.1)).Nodup ∧ (∀ x ∈ l, x.1 < σ.length ∧ ClO σ.length x.2) ∧ Pq σ l K r s) Try.func54 rfl rfl (by kernel_rfl) (fun _ _ h => h) ?_
 unfold B_check_solver_calls at h
 have hP := Pre.refl σ
 have jl0 := H0.lt
 have jl0_2 := H0_2.lt
 have hF := Fr.refl σ [j0, j0_2]
 have E0 : argE [(.pt j0 0), (.ag (check_solver_calls_A0 a1))] 0 = (.pt j0 0) := rfl
 have E1 : argE [(.pt j0 0), (.ag (check_solver_calls_A0 a1))] 1 = (.ag (check_solver_calls_A0 a1)) := rfl
 have TT := cj12 Expr.rlen T_106 T_120 T_121 T_123 T_2 T_3 T_30 T_37 T_39 T_43 T_9
 refine w_sa (fun e s => ∃ i3 : Nat, ∃ τ : Store, Gx s j0 (AObj.box 123 [(.v (.int .i64 a0.finder.at_)), (.v (.int .i64 a0.finder.e)), (.mp j0_2)]) ∧ Gx s j0_2 (AObj.map .s (mpF check_solver_calls_V0 (Mp.get a0.known)) (Mp.n a0.known)) ∧ Bx σ s i3 39 (check_solver_calls_A0 a1) ∧ e 0 = (.pt j0 0) ∧ e 3 = (.pt i3 0) ∧ j0 ≠ i3 ∧ Fr σ τ [j0, j0_2] ∧ Pre τ s) ?_ fun e s hI => ?_
 ·refine w_x (cj9 E0 E1 H0.get H0.any H0.any2 H0_2.get H0_2.any H0_2.any2 TT) (k := ?_)
  have q1 := cj9 E0 E1 H0.get H0.any H0.any2 H0_2.get H0_2.any H0_2.any2 TT
  exact cw_n ⟨_, WkE.refl _, σ.length, σ, (H0.app [some (AObj.box 39 (check_solver_calls_A0 a1))]), (H0_2.app [some (AObj.box 39 (check_solver_calls_A0 a1))]), (Bx.newf hF hP 39 (check_solver_calls_A0 a1)), (xv q1), (xv q1), (Nat.ne_of_lt H0.lt), hF, (hP.app _)⟩
 obtain ⟨i3, τ, X0, X0_2, X3, E0, E3, N0__3, hF, hP⟩ := hI
 refine w_assoc ?_
 refine w_sa (fun e s => ∃ τ : Store, Gx s j0 (AObj.box 123 [(.v (.int .i64 a0.finder.at_)), (.v (.int .i64 a0.finder.e)), (.mp j0_2)]) ∧ Gx s j0_2 (AObj.map .s (mpF check_solver_calls_V0 (Mp.get a0.known)) (Mp.n a0.known)) ∧ Bx σ s i3 39 (check_solver_calls_A0 a1) ∧ e 0 = (.pt j0 0) ∧ e 3 = (.pt i3 0) ∧ e 14 = (.v (.bool (decide (a1.kind = (2 : Int))))) ∧ j0 ≠ i3 ∧ Fr σ τ [j0, j0_2] ∧ Pre τ s) ?_ fun e s hI => ?_
 ·refine w_x (cj6 E0 E3 X0.get X0_2.get X3.get TT) (k := ?_)
  have q2 := cj6 E0 E3 X0.get X0_2.get X3.get TT
  exact cw_n ⟨_, WkE.refl _, τ, X0, X0_2, X3, (xv q2), (xv q2), (xv q2), N0__3, hF, hP⟩
 obtain ⟨τ, X0, X0_2, X3, E0, E3, E14, N0__3, hF, hP⟩ := hI
 obtain ⟨x1, h2, h⟩ := bnd_some h
 refine w_sa (fun e s => ∃ vs_3 : check_solver, ∃ v0_2_4 : (Mp Clock), ∃ τ : Store, (vs_3, v0_2_4) = x1 ∧ Gx s j0 (AObj.box 123 [(.v (.int .i64 vs_3.finder.at_)), (.v (.int .i64 vs_3.finder.e)), (.mp j0_2)]) ∧ Gx s j0_2 (AObj.map .s (mpF check_solver_calls_V0 (Mp.get v0_2_4)) (Mp.n v0_2_4)) ∧ Bx σ s i3 39 (check_solver_calls_A0 a1) ∧ e 0 = (.pt j0 0) ∧ e 3 = (.pt i3 0) ∧ j0 ≠ i3 ∧ Fr σ τ [j0, j0_2] ∧ Pre τ s) ?_ fun e s hI => ?_
 ·rcases ite_some h2 with ⟨hb5, h2⟩ | ⟨hb5, h2⟩
  ·refine xt (cj4 E0 E3 E14 hb5) ?_
   obtain ⟨y6, h7, h2⟩ := bnd_some h2
   obtain ⟨y8, h9, h2⟩ := bnd_some h2
   refine w_sa (fun e s => ∃ i4 : Nat, ∃ τ : Store, Gx s j0 (AObj.box 123 [(.v (.int .i64 y8.2.finder.at_)), (.v (.int .i64 y8.2.finder.e)), (.mp j0_2)]) ∧ Gx s j0_2 (AObj.map .s (mpF check_solver_calls_V0 (Mp.get y8.2.known)) (Mp.n y8.2.known)) ∧ Bx σ s i3 39 (check_solver_calls_A0 a1) ∧ Bx σ s i4 43 [(.v (.int .i64 y8.1.1.period)), (.v (.int .i64 y8.1.1.phase))] ∧ e 0 = (.pt j0 0) ∧ e 3 = (.pt i3 0) ∧ e 4 = (.pt i4 0) ∧ j0 ≠ i3 ∧ j0 ≠ i4 ∧ Fr σ τ [j0, j0_2] ∧ Pre τ s) ?_ fun e s hI => ?_
   ·have R10 : (Expr.rows a1.args)[((0 : Int)).toNat]? = some [(.v (.int .i64 y6.kind)), (.v (.string y6.name)), (.v (.int .i64 y6.n)), (.v (.int .i64 y6.d)), (.sl (Expr.rows y6.args)), (.v (.int .i64 y6.at_))] := Expr.rget (getI_some h7).2
    have q3 := Gx.apart X0 X0_2 (by intro h; cases h)
    have q4 := Gx.same X0 (AObj.box 123 [(.v (.int .i64 y8.2.finder.at_)), (.v (.int .i64 y8.2.finder.e)), (.mp j0_2)])
    have q5 := X3.ne N0__3 (some (AObj.box 123 [(.v (.int .i64 y8.2.finder.at_)), (.v (.int .i64 y8.2.finder.e)), (.mp j0_2)]))
    refine w_x (cj2 E0 (cj20 E3 E14 X0.get X0.any X0.any2 X0_2.get X0_2.any X0_2.any2 X3.get X3.any X3.any2 R10 (getI_some h7).1 q4.get (X0_2.ne q3 (some (AObj.box 123 [(.v (.int .i64 y8.2.finder.at_)), (.v (.int .i64 y8.2.finder.e)), (.mp j0_2)]))).get q5.get (q4.ne (Gx.apart (X0_2.ne q3 (some (AObj.box 123 [(.v (.int .i64 y8.2.finder.at_)), (.v (.int .i64 y8.2.finder.e)), (.mp j0_2)]))) q4 (by intro h; cases h)) (some (AObj.map .s (mpF check_solver_calls_V0 (Mp.get y8.2.known)) (Mp.n y8.2.known)))).get (Gx.same (X0_2.ne q3 (some (AObj.box 123 [(.v (.int .i64 y8.2.finder.at_)), (.v (.int .i64 y8.2.finder.e)), (.mp j0_2)]))) (AObj.map .s (mpF check_solver_calls_V0 (Mp.get y8.2.known)) (Mp.n y8.2.known))).get (q5.ne (Gx.apart (X0_2.ne q3 (some (AObj.box 123 [(.v (.int .i64 y8.2.finder.at_)), (.v (.int .i64 y8.2.finder.e)), (.mp j0_2)]))) q5.gx (by intro h; cases h)) (some (AObj.map .s (mpF check_solver_calls_V0 (Mp.get y8.2.known)) (Mp.n y8.2.known)))).get TT)) (k := ?_)
    refine EC.wka (.cons (.refl _) (.cons (.refl _) .nil)) (S_check_solver_of _ _ _ h9 _ _ _ _ X0 X0_2 ?_)
    have q6 := Gx.apart X0 X0_2 (by intro h; cases h)
    have q7 := Gx.same X0 (AObj.box 123 [(.v (.int .i64 y8.2.finder.at_)), (.v (.int .i64 y8.2.finder.e)), (.mp j0_2)])
    have q8 := X3.ne N0__3 (some (AObj.box 123 [(.v (.int .i64 y8.2.finder.at_)), (.v (.int .i64 y8.2.finder.e)), (.mp j0_2)]))
    refine w_y (cj2 E0 (cj20 E3 E14 X0.get X0.any X0.any2 X0_2.get X0_2.any X0_2.any2 X3.get X3.any X3.any2 R10 (getI_some h7).1 q7.get (X0_2.ne q6 (some (AObj.box 123 [(.v (.int .i64 y8.2.finder.at_)), (.v (.int .i64 y8.2.finder.e)), (.mp j0_2)]))).get q8.get (q7.ne (Gx.apart (X0_2.ne q6 (some (AObj.box 123 [(.v (.int .i64 y8.2.finder.at_)), (.v (.int .i64 y8.2.finder.e)), (.mp j0_2)]))) q7 (by intro h; cases h)) (some (AObj.map .s (mpF check_solver_calls_V0 (Mp.get y8.2.known)) (Mp.n y8.2.known)))).get (Gx.same (X0_2.ne q6 (some (AObj.box 123 [(.v (.int .i64 y8.2.finder.at_)), (.v (.int .i64 y8.2.finder.e)), (.mp j0_2)]))) (AObj.map .s (mpF check_solver_calls_V0 (Mp.get y8.2.known)) (Mp.n y8.2.known))).get (q8.ne (Gx.apart (X0_2.ne q6 (some (AObj.box 123 [(.v (.int .i64 y8.2.finder.at_)), (.v (.int .i64 y8.2.finder.e)), (.mp j0_2)]))) q8.gx (by intro h; cases h)) (some (AObj.map .s (mpF check_solver_calls_V0 (Mp.get y8.2.known)) (Mp.n y8.2.known)))).get TT)) (k := ?_)
    have q9 := Gx.apart X0 X0_2 (by intro h; cases h)
    have q10 := Gx.same X0 (AObj.box 123 [(.v (.int .i64 y8.2.finder.at_)), (.v (.int .i64 y8.2.finder.e)), (.mp j0_2)])
    have q11 := X3.ne N0__3 (some (AObj.box 123 [(.v (.int .i64 y8.2.finder.at_)), (.v (.int .i64 y8.2.finder.e)), (.mp j0_2)]))
    have q12 := Gx.apart (X0_2.ne q9 (some (AObj.box 123 [(.v (.int .i64 y8.2.finder.at_)), (.v (.int .i64 y8.2.finder.e)), (.mp j0_2)]))) q10 (by intro h; cases h)
    have q13 := Gx.apart (X0_2.ne q9 (some (AObj.box 123 [(.v (.int .i64 y8.2.finder.at_)), (.v (.int .i64 y8.2.finder.e)), (.mp j0_2)]))) q11.gx (by intro h; cases h)
    have q14 := Gx.same (X0_2.ne q9 (some (AObj.box 123 [(.v (.int .i64 y8.2.finder.at_)), (.v (.int .i64 y8.2.finder.e)), (.mp j0_2)]))) (AObj.map .s (mpF check_solver_calls_V0 (Mp.get y8.2.known)) (Mp.n y8.2.known))
    have q15 := cj20 E3 E14 X0.get X0.any X0.any2 X0_2.get X0_2.any X0_2.any2 X3.get X3.any X3.any2 R10 (getI_some h7).1 q10.get (X0_2.ne q9 (some (AObj.box 123 [(.v (.int .i64 y8.2.finder.at_)), (.v (.int .i64 y8.2.finder.e)), (.mp j0_2)]))).get q11.get (q10.ne q12 (some (AObj.map .s (mpF check_solver_calls_V0 (Mp.get y8.2.known)) (Mp.n y8.2.known)))).get q14.get (q11.ne q13 (some (AObj.map .s (mpF check_solver_calls_V0 (Mp.get y8.2.known)) (Mp.n y8.2.known)))).get TT
    exact cw_n ⟨_, WkE.refl _, (List.set (List.set s j0 (some (AObj.box 123 [(.v (.int .i64 y8.2.finder.at_)), (.v (.int .i64 y8.2.finder.e)), (.mp j0_2)]))) j0_2 (some (AObj.map .s (mpF check_solver_calls_V0 (Mp.get y8.2.known)) (Mp.n y8.2.known)))).length, (List.set (List.set τ j0 (some (AObj.box 123 [(.v (.int .i64 y8.2.finder.at_)), (.v (.int .i64 y8.2.finder.e)), (.mp j0_2)]))) j0_2 (some (AObj.map .s (mpF check_solver_calls_V0 (Mp.get y8.2.known)) (Mp.n y8.2.known)))), ((q10.ne q12 (some (AObj.map .s (mpF check_solver_calls_V0 (Mp.get y8.2.known)) (Mp.n y8.2.known)))).app [some (AObj.box 43 [(.v (.int .i64 y8.1.1.period)), (.v (.int .i64 y8.1.1.phase))])]), (q14.app [some (AObj.box 43 [(.v (.int .i64 y8.1.1.period)), (.v (.int .i64 y8.1.1.phase))])]), ((q11.ne q13 (some (AObj.map .s (mpF check_solver_calls_V0 (Mp.get y8.2.known)) (Mp.n y8.2.known)))).app [some (AObj.box 43 [(.v (.int .i64 y8.1.1.period)), (.v (.int .i64 y8.1.1.phase))])]), (Bx.newf ((hF.set (by simp) (some (AObj.box 123 [(.v (.int .i64 y8.2.finder.at_)), (.v (.int .i64 y8.2.finder.e)), (.mp j0_2)]))).set (by simp) (some (AObj.map .s (mpF check_solver_calls_V0 (Mp.get y8.2.known)) (Mp.n y8.2.known)))) ((hP.setp (hF.lt jl0) (some (AObj.box 123 [(.v (.int .i64 y8.2.finder.at_)), (.v (.int .i64 y8.2.finder.e)), (.mp j0_2)]))).setp ((hF.set (by simp) (some (AObj.box 123 [(.v (.int .i64 y8.2.finder.at_)), (.v (.int .i64 y8.2.finder.e)), (.mp j0_2)]))).lt jl0_2) (some (AObj.map .s (mpF check_solver_calls_V0 (Mp.get y8.2.known)) (Mp.n y8.2.known)))) 43 [(.v (.int .i64 y8.1.1.period)), (.v (.int .i64 y8.1.1.phase))]), (xv (cj2 E0 q15)), (xv (cj2 E0 q15)), (xv (cj2 E0 q15)), N0__3, (Nat.ne_of_lt (q10.ne q12 (some (AObj.map .s (mpF check_solver_calls_V0 (Mp.get y8.2.known)) (Mp.n y8.2.known)))).lt), ((hF.set (by simp) (some (AObj.box 123 [(.v (.int .i64 y8.2.finder.at_)), (.v (.int .i64 y8.2.finder.e)), (.mp j0_2)]))).set (by simp) (some (AObj.map .s (mpF check_solver_calls_V0 (Mp.get y8.2.known)) (Mp.n y8.2.known)))), (((hP.setp (hF.lt jl0) (some (AObj.box 123 [(.v (.int .i64 y8.2.finder.at_)), (.v (.int .i64 y8.2.finder.e)), (.mp j0_2)]))).setp ((hF.set (by simp) (some (AObj.box 123 [(.v (.int .i64 y8.2.finder.at_)), (.v (.int .i64 y8.2.finder.e)), (.mp j0_2)]))).lt jl0_2) (some (AObj.map .s (mpF check_solver_calls_V0 (Mp.get y8.2.known)) (Mp.n y8.2.known)))).app _)⟩
   obtain ⟨i4, τ, X0, X0_2, X3, X4, E0, E3, E4, N0__3, N0__4, hF, hP⟩ := hI
   obtain ⟨y11, h12, h2⟩ := bnd_some h2
   refine w_sa (fun e s => ∃ τ : Store, Gx s j0 (AObj.box 123 [(.v (.int .i64 y8.2.finder.at_)), (.v (.int .i64 y8.2.finder.e)), (.mp j0_2)]) ∧ Gx s j0_2 (AObj.map .s (mpF check_solver_calls_V0 (Mp.get y8.2.known)) (Mp.n y8.2.known)) ∧ Bx σ s i3 39 (check_solver_calls_A0 a1) ∧ Bx σ s i4 43 [(.v (.int .i64 y8.1.1.period)), (.v (.int .i64 y8.1.1.phase))] ∧ e 0 = (.pt j0 0) ∧ e 3 = (.pt i3 0) ∧ e 4 = (.pt i4 0) ∧ e 26 = (.sl (Expr.rows y11)) ∧ e 27 = (.v (.int .i64 ((List.length y11 : Nat) : Int))) ∧ e 28 = (.v (.int .i64 (0 : Int))) ∧ j0 ≠ i3 ∧ j0 ≠ i4 ∧ Fr σ τ [j0, j0_2] ∧ Pre τ s) ?_ fun e s hI => ?_
   ·have R13 : List.drop ((1 : Int)).toNat (List.take (((List.length a1.args : Nat) : Int)).toNat (Expr.rows a1.args)) = Expr.rows y11 := by rw [← (subL_some h12).2, Expr.rows_eq, Expr.rows_eq, List.map_drop, List.map_take]
    refine w_x (cj11 E0 E3 E4 X0.get X0_2.get X3.get X4.get (subL_some h12).1 R13 (eq_true (Expr.rall a1.args)) TT) (k := ?_)
    have q16 := cj11 E0 E3 E4 X0.get X0_2.get X3.get X4.get (subL_some h12).1 R13 (eq_true (Expr.rall a1.args)) TT
    exact cw_n ⟨_, WkE.refl _, τ, X0, X0_2, X3, X4, (xv q16), (xv q16), (xv q16), (xv q16), (xv q16), (xv q16), N0__3, N0__4, hF, hP⟩
   obtain ⟨τ, X0, X0_2, X3, X4, E0, E3, E4, E26, E27, E28, N0__3, N0__4, hF, hP⟩ := hI
   obtain ⟨x14, h15, h2⟩ := bnd_some h2
   refine w_an (fun e s => ∃ vs_16 : check_solver, ∃ v0_2_17 : (Mp Clock), ∃ τ : Store, (vs_16, v0_2_17) = x14 ∧ Gx s j0 (AObj.box 123 [(.v (.int .i64 vs_16.finder.at_)), (.v (.int .i64 vs_16.finder.e)), (.mp j0_2)]) ∧ Gx s j0_2 (AObj.map .s (mpF check_solver_calls_V0 (Mp.get v0_2_17)) (Mp.n v0_2_17)) ∧ Bx σ s i3 39 (check_solver_calls_A0 a1) ∧ e 0 = (.pt j0 0) ∧ e 3 = (.pt i3 0) ∧ j0 ≠ i3 ∧ Fr σ τ [j0, j0_2] ∧ Pre τ s) ?_ fun e s hI => ?_
   ·refine w_block ?_
    have q17 := cj6 E0 E3 E4 E26 E27 E28
    refine w_iter h15 (fun v e s => ∃ v28_18 : Int, ∃ vs_19 : check_solver, ∃ v0_2_20 : (Mp Clock), ∃ τ : Store, (v28_18, vs_19, v0_2_20) = v ∧ Gx s j0 (AObj.box 123 [(.v (.int .i64 vs_19.finder.at_)), (.v (.int .i64 vs_19.finder.e)), (.mp j0_2)]) ∧ Gx s j0_2 (AObj.map .s (mpF check_solver_calls_V0 (Mp.get v0_2_20)) (Mp.n v0_2_20)) ∧ Bx σ s i3 39 (check_solver_calls_A0 a1) ∧ Bx σ s i4 43 [(.v (.int .i64 y8.1.1.period)), (.v (.int .i64 y8.1.1.phase))] ∧ e 0 = (.pt j0 0) ∧ e 3 = (.pt i3 0) ∧ e 4 = (.pt i4 0) ∧ e 26 = (.sl (Expr.rows y11)) ∧ e 27 = (.v (.int .i64 ((List.length y11 : Nat) : Int))) ∧ e 28 = (.v (.int .i64 v28_18)) ∧ j0 ≠ i3 ∧ j0 ≠ i4 ∧ Fr σ τ [j0, j0_2] ∧ Pre τ s) ⟨_, WkE.refl _, _, _, _, τ, rfl, X0, X0_2, X3, X4, (xv q17), (xv q17), (xv q17), (xv q17), (xv q17), (xv q17), N0__3, N0__4, hF, hP⟩ fun v x21 e s hf22 hI => ?_
    obtain ⟨v28_18, vs_19, v0_2_20, τ, rfl, X0, X0_2, X3, X4, E0, E3, E4, E26, E27, E28, N0__3, N0__4, hF, hP⟩ := hI
    unfold check_solver_calls_L0 at hf22
    try dsimp only at hf22
    refine w_sa (fun e s => ∃ τ : Store, Gx s j0 (AObj.box 123 [(.v (.int .i64 vs_19.finder.at_)), (.v (.int .i64 vs_19.finder.e)), (.mp j0_2)]) ∧ Gx s j0_2 (AObj.map .s (mpF check_solver_calls_V0 (Mp.get v0_2_20)) (Mp.n v0_2_20)) ∧ Bx σ s i3 39 (check_solver_calls_A0 a1) ∧ Bx σ s i4 43 [(.v (.int .i64 y8.1.1.period)), (.v (.int .i64 y8.1.1.phase))] ∧ e 0 = (.pt j0 0) ∧ e 3 = (.pt i3 0) ∧ e 4 = (.pt i4 0) ∧ e 26 = (.sl (Expr.rows y11)) ∧ e 27 = (.v (.int .i64 ((List.length y11 : Nat) : Int))) ∧ e 28 = (.v (.int .i64 v28_18)) ∧ e 29 = (.v (.bool (decide (v28_18 < ((List.length y11 : Nat) : Int))))) ∧ j0 ≠ i3 ∧ j0 ≠ i4 ∧ Fr σ τ [j0, j0_2] ∧ Pre τ s) ?_ fun e s hI => ?_
    ·refine w_x (cj11 E0 E3 E4 E26 E27 E28 X0.get X0_2.get X3.get X4.get TT) (k := ?_)
     have q18 := cj11 E0 E3 E4 E26 E27 E28 X0.get X0_2.get X3.get X4.get TT
     exact cw_n ⟨_, WkE.refl _, τ, X0, X0_2, X3, X4, (xv q18), (xv q18), (xv q18), (xv q18), (xv q18), (xv q18), (xv q18), N0__3, N0__4, hF, hP⟩
    obtain ⟨τ, X0, X0_2, X3, X4, E0, E3, E4, E26, E27, E28, E29, N0__3, N0__4, hF, hP⟩ := hI
    refine w_seq ?_
    rcases ite_some hf22 with ⟨hb23, hf22⟩ | ⟨hb23, hf22⟩
    ·refine xt (cj8 E0 E3 E4 E26 E27 E28 E29 hb23) ?_
     refine w_skip ?_
     refine w_sq ?_
     obtain ⟨x24, h25, hf22⟩ := bnd_some hf22
     refine w_sa (fun e s => ∃ vs_26 : check_solver, ∃ v0_2_27 : (Mp Clock), ∃ τ : Store, (vs_26, v0_2_27) = x24 ∧ Gx s j0 (AObj.box 123 [(.v (.int .i64 vs_26.finder.at_)), (.v (.int .i64 vs_26.finder.e)), (.mp j0_2)]) ∧ Gx s j0_2 (AObj.map .s (mpF check_solver_calls_V0 (Mp.get v0_2_27)) (Mp.n v0_2_27)) ∧ Bx σ s i3 39 (check_solver_calls_A0 a1) ∧ Bx σ s i4 43 [(.v (.int .i64 y8.1.1.period)), (.v (.int .i64 y8.1.1.phase))] ∧ e 0 = (.pt j0 0) ∧ e 3 = (.pt i3 0) ∧ e 4 = (.pt i4 0) ∧ e 26 = (.sl (Expr.rows y11)) ∧ e 27 = (.v (.int .i64 ((List.length y11 : Nat) : Int))) ∧ e 28 = (.v (.int .i64 v28_18)) ∧ j0 ≠ i3 ∧ j0 ≠ i4 ∧ Fr σ τ [j0, j0_2] ∧ Pre τ s) ?_ fun e s hI => ?_
     ·refine w_block ?_
      obtain ⟨y28, h29, h25⟩ := bnd_some h25
      refine w_sa (fun e s => ∃ i7 : Nat, ∃ τ : Store, Gx s j0 (AObj.box 123 [(.v (.int .i64 vs_19.finder.at_)), (.v (.int .i64 vs_19.finder.e)), (.mp j0_2)]) ∧ Gx s j0_2 (AObj.map .s (mpF check_solver_calls_V0 (Mp.get v0_2_20)) (Mp.n v0_2_20)) ∧ Bx σ s i3 39 (check_solver_calls_A0 a1) ∧ Bx σ s i4 43 [(.v (.int .i64 y8.1.1.period)), (.v (.int .i64 y8.1.1.phase))] ∧ Bx σ s i7 39 [(.v (.int .i64 y28.kind)), (.v (.string y28.name)), (.v (.int .i64 y28.n)), (.v (.int .i64 y28.d)), (.sl (Expr.rows y28.args)), (.v (.int .i64 y28.at_))] ∧ e 0 = (.pt j0 0) ∧ e 3 = (.pt i3 0) ∧ e 4 = (.pt i4 0) ∧ e 7 = (.pt i7 0) ∧ e 26 = (.sl (Expr.rows y11)) ∧ e 27 = (.v (.int .i64 ((List.length y11 : Nat) : Int))) ∧ e 28 = (.v (.int .i64 v28_18)) ∧ j0 ≠ i3 ∧ j0 ≠ i4 ∧ j0 ≠ i7 ∧ Fr σ τ [j0, j0_2] ∧ Pre τ s) ?_ fun e s hI => ?_
      ·have R30 : (Expr.rows y11)[(v28_18).toNat]? = some [(.v (.int .i64 y28.kind)), (.v (.string y28.name)), (.v (.int .i64 y28.n)), (.v (.int .i64 y28.d)), (.sl (Expr.rows y28.args)), (.v (.int .i64 y28.at_))] := Expr.rget (getI_some h29).2
       refine w_x (cj3 E0 E3 (cj20 E4 E26 E27 E28 E29 X0.get X0.any X0.any2 X0_2.get X0_2.any X0_2.any2 X3.get X3.any X3.any2 X4.get X4.any X4.any2 R30 (getI_some h29).1 TT)) (k := ?_)
       have q19 := cj20 E4 E26 E27 E28 E29 X0.get X0.any X0.any2 X0_2.get X0_2.any X0_2.any2 X3.get X3.any X3.any2 X4.get X4.any X4.any2 R30 (getI_some h29).1 TT
       have q20 := cj3 E0 E3 q19
       exact cw_n ⟨_, WkE.refl _, s.length, τ, (X0.app [some (AObj.box 39 [(.v (.int .i64 y28.kind)), (.v (.string y28.name)), (.v (.int .i64 y28.n)), (.v (.int .i64 y28.d)), (.sl (Expr.rows y28.args)), (.v (.int .i64 y28.at_))])]), (X0_2.app [some (AObj.box 39 [(.v (.int .i64 y28.kind)), (.v (.string y28.name)), (.v (.int .i64 y28.n)), (.v (.int .i64 y28.d)), (.sl (Expr.rows y28.args)), (.v (.int .i64 y28.at_))])]), (X3.app [some (AObj.box 39 [(.v (.int .i64 y28.kind)), (.v (.string y28.name)), (.v (.int .i64 y28.n)), (.v (.int .i64 y28.d)), (.sl (Expr.rows y28.args)), (.v (.int .i64 y28.at_))])]), (X4.app [some (AObj.box 39 [(.v (.int .i64 y28.kind)), (.v (.string y28.name)), (.v (.int .i64 y28.n)), (.v (.int .i64 y28.d)), (.sl (Expr.rows y28.args)), (.v (.int .i64 y28.at_))])]), (Bx.newf hF hP 39 [(.v (.int .i64 y28.kind)), (.v (.string y28.name)), (.v (.int .i64 y28.n)), (.v (.int .i64 y28.d)), (.sl (Expr.rows y28.args)), (.v (.int .i64 y28.at_))]), (xv q20), (xv q20), (xv q20), (xv q20), (xv q20), (xv q20), (xv q20), N0__3, N0__4, (Nat.ne_of_lt X0.lt), hF, (hP.app _)⟩
      obtain ⟨i7, τ, X0, X0_2, X3, X4, X7, E0, E3, E4, E7, E26, E27, E28, N0__3, N0__4, N0__7, hF, hP⟩ := hI
      obtain ⟨y31, h32, h25⟩ := bnd_some h25
      refine w_sa (fun e s => ∃ i8 : Nat, ∃ τ : Store, Gx s j0 (AObj.box 123 [(.v (.int .i64 y31.2.finder.at_)), (.v (.int .i64 y31.2.finder.e)), (.mp j0_2)]) ∧ Gx s j0_2 (AObj.map .s (mpF check_solver_calls_V0 (Mp.get y31.2.known)) (Mp.n y31.2.known)) ∧ Bx σ s i3 39 (check_solver_calls_A0 a1) ∧ Bx σ s i4 43 [(.v (.int .i64 y8.1.1.period)), (.v (.int .i64 y8.1.1.phase))] ∧ Bx σ s i8 43 [(.v (.int .i64 y31.1.1.period)), (.v (.int .i64 y31.1.1.phase))] ∧ e 0 = (.pt j0 0) ∧ e 3 = (.pt i3 0) ∧ e 4 = (.pt i4 0) ∧ e 8 = (.pt i8 0) ∧ e 9 = (.v (.bool y31.1.2)) ∧ e 26 = (.sl (Expr.rows y11)) ∧ e 27 = (.v (.int .i64 ((List.length y11 : Nat) : Int))) ∧ e 28 = (.v (.int .i64 v28_18)) ∧ j0 ≠ i3 ∧ j0 ≠ i4 ∧ j0 ≠ i8 ∧ Fr σ τ [j0, j0_2] ∧ Pre τ s) ?_ fun e s hI => ?_
      ·have q21 := Gx.apart X0 X0_2 (by intro h; cases h)
       have q22 := Gx.same X0 (AObj.box 123 [(.v (.int .i64 y31.2.finder.at_)), (.v (.int .i64 y31.2.finder.e)), (.mp j0_2)])
       have q23 := X3.ne N0__3 (some (AObj.box 123 [(.v (.int .i64 y31.2.finder.at_)), (.v (.int .i64 y31.2.finder.e)), (.mp j0_2)]))
       have q24 := X4.ne N0__4 (some (AObj.box 123 [(.v (.int .i64 y31.2.finder.at_)), (.v (.int .i64 y31.2.finder.e)), (.mp j0_2)]))
       have q25 := X7.ne N0__7 (some (AObj.box 123 [(.v (.int .i64 y31.2.finder.at_)), (.v (.int .i64 y31.2.finder.e)), (.mp j0_2)]))
       refine w_x (cj14 E0 E3 E4 E7 E26 E27 E28 X0.get X0.any X0.any2 X0_2.get X0_2.any X0_2.any2 (cj20 X3.get X3.any X3.any2 X4.get X4.any X4.any2 X7.get X7.any X7.any2 q22.get (X0_2.ne q21 (some (AObj.box 123 [(.v (.int .i64 y31.2.finder.at_)), (.v (.int .i64 y31.2.finder.e)), (.mp j0_2)]))).get q23.get q24.get q25.get (q22.ne (Gx.apart (X0_2.ne q21 (some (AObj.box 123 [(.v (.int .i64 y31.2.finder.at_)), (.v (.int .i64 y31.2.finder.e)), (.mp j0_2)]))) q22 (by intro h; cases h)) (some (AObj.map .s (mpF check_solver_calls_V0 (Mp.get y31.2.known)) (Mp.n y31.2.known)))).get (Gx.same (X0_2.ne q21 (some (AObj.box 123 [(.v (.int .i64 y31.2.finder.at_)), (.v (.int .i64 y31.2.finder.e)), (.mp j0_2)]))) (AObj.map .s (mpF check_solver_calls_V0 (Mp.get y31.2.known)) (Mp.n y31.2.known))).get (q23.ne (Gx.apart (X0_2.ne q21 (some (AObj.box 123 [(.v (.int .i64 y31.2.finder.at_)), (.v (.int .i64 y31.2.finder.e)), (.mp j0_2)]))) q23.gx (by intro h; cases h)) (some (AObj.map .s (mpF check_solver_calls_V0 (Mp.get y31.2.known)) (Mp.n y31.2.known)))).get (q24.ne (Gx.apart (X0_2.ne q21 (some (AObj.box 123 [(.v (.int .i64 y31.2.finder.at_)), (.v (.int .i64 y31.2.finder.e)), (.mp j0_2)]))) q24.gx (by intro h; cases h)) (some (AObj.map .s (mpF check_solver_calls_V0 (Mp.get y31.2.known)) (Mp.n y31.2.known)))).get (q25.ne (Gx.apart (X0_2.ne q21 (some (AObj.box 123 [(.v (.int .i64 y31.2.finder.at_)), (.v (.int .i64 y31.2.finder.e)), (.mp j0_2)]))) q25.gx (by intro h; cases h)) (some (AObj.map .s (mpF check_solver_calls_V0 (Mp.get y31.2.known)) (Mp.n y31.2.known)))).get TT)) (k := ?_)
       refine EC.wka (.cons (.refl _) (.cons (.refl _) .nil)) (S_check_solver_of _ _ _ h32 _ _ _ _ X0 X0_2 ?_)
       have q26 := Gx.apart X0 X0_2 (by intro h; cases h)
       have q27 := Gx.same X0 (AObj.box 123 [(.v (.int .i64 y31.2.finder.at_)), (.v (.int .i64 y31.2.finder.e)), (.mp j0_2)])
       have q28 := X3.ne N0__3 (some (AObj.box 123 [(.v (.int .i64 y31.2.finder.at_)), (.v (.int .i64 y31.2.finder.e)), (.mp j0_2)]))
       have q29 := X4.ne N0__4 (some (AObj.box 123 [(.v (.int .i64 y31.2.finder.at_)), (.v (.int .i64 y31.2.finder.e)), (.mp j0_2)]))
       have q30 := X7.ne N0__7 (some (AObj.box 123 [(.v (.int .i64 y31.2.finder.at_)), (.v (.int .i64 y31.2.finder.e)), (.mp j0_2)]))
       refine w_y (cj14 E0 E3 E4 E7 E26 E27 E28 X0.get X0.any X0.any2 X0_2.get X0_2.any X0_2.any2 (cj20 X3.get X3.any X3.any2 X4.get X4.any X4.any2 X7.get X7.any X7.any2 q27.get (X0_2.ne q26 (some (AObj.box 123 [(.v (.int .i64 y31.2.finder.at_)), (.v (.int .i64 y31.2.finder.e)), (.mp j0_2)]))).get q28.get q29.get q30.get (q27.ne (Gx.apart (X0_2.ne q26 (some (AObj.box 123 [(.v (.int .i64 y31.2.finder.at_)), (.v (.int .i64 y31.2.finder.e)), (.mp j0_2)]))) q27 (by intro h; cases h)) (some (AObj.map .s (mpF check_solver_calls_V0 (Mp.get y31.2.known)) (Mp.n y31.2.known)))).get (Gx.same (X0_2.ne q26 (some (AObj.box 123 [(.v (.int .i64 y31.2.finder.at_)), (.v (.int .i64 y31.2.finder.e)), (.mp j0_2)]))) (AObj.map .s (mpF check_solver_calls_V0 (Mp.get y31.2.known)) (Mp.n y31.2.known))).get (q28.ne (Gx.apart (X0_2.ne q26 (some (AObj.box 123 [(.v (.int .i64 y31.2.finder.at_)), (.v (.int .i64 y31.2.finder.e)), (.mp j0_2)]))) q28.gx (by intro h; cases h)) (some (AObj.map .s (mpF check_solver_calls_V0 (Mp.get y31.2.known)) (Mp.n y31.2.known)))).get (q29.ne (Gx.apart (X0_2.ne q26 (some (AObj.box 123 [(.v (.int .i64 y31.2.finder.at_)), (.v (.int .i64 y31.2.finder.e)), (.mp j0_2)]))) q29.gx (by intro h; cases h)) (some (AObj.map .s (mpF check_solver_calls_V0 (Mp.get y31.2.known)) (Mp.n y31.2.known)))).get (q30.ne (Gx.apart (X0_2.ne q26 (some (AObj.box 123 [(.v (.int .i64 y31.2.finder.at_)), (.v (.int .i64 y31.2.finder.e)), (.mp j0_2)]))) q30.gx (by intro h; cases h)) (some (AObj.map .s (mpF check_solver_calls_V0 (Mp.get y31.2.known)) (Mp.n y31.2.known)))).get TT)) (k := ?_)
       have q31 := Gx.apart X0 X0_2 (by intro h; cases h)
       have q32 := Gx.same X0 (AObj.box 123 [(.v (.int .i64 y31.2.finder.at_)), (.v (.int .i64 y31.2.finder.e)), (.mp j0_2)])
       have q33 := X3.ne N0__3 (some (AObj.box 123 [(.v (.int .i64 y31.2.finder.at_)), (.v (.int .i64 y31.2.finder.e)), (.mp j0_2)]))
       have q34 := X4.ne N0__4 (some (AObj.box 123 [(.v (.int .i64 y31.2.finder.at_)), (.v (.int .i64 y31.2.finder.e)), (.mp j0_2)]))
       have q35 := X7.ne N0__7 (some (AObj.box 123 [(.v (.int .i64 y31.2.finder.at_)), (.v (.int .i64 y31.2.finder.e)), (.mp j0_2)]))
       have q36 := Gx.apart (X0_2.ne q31 (some (AObj.box 123 [(.v (.int .i64 y31.2.finder.at_)), (.v (.int .i64 y31.2.finder.e)), (.mp j0_2)]))) q32 (by intro h; cases h)
       have q37 := Gx.apart (X0_2.ne q31 (some (AObj.box 123 [(.v (.int .i64 y31.2.finder.at_)), (.v (.int .i64 y31.2.finder.e)), (.mp j0_2)]))) q33.gx (by intro h; cases h)
       have q38 := Gx.apart (X0_2.ne q31 (some (AObj.box 123 [(.v (.int .i64 y31.2.finder.at_)), (.v (.int .i64 y31.2.finder.e)), (.mp j0_2)]))) q34.gx (by intro h; cases h)
       have q39 := Gx.apart (X0_2.ne q31 (some (AObj.box 123 [(.v (.int .i64 y31.2.finder.at_)), (.v (.int .i64 y31.2.finder.e)), (.mp j0_2)]))) q35.gx (by intro h; cases h)
       have q40 := Gx.same (X0_2.ne q31 (some (AObj.box 123 [(.v (.int .i64 y31.2.finder.at_)), (.v (.int .i64 y31.2.finder.e)), (.mp j0_2)]))) (AObj.map .s (mpF check_solver_calls_V0 (Mp.get y31.2.known)) (Mp.n y31.2.known))
       have q41 := cj20 X3.get X3.any X3.any2 X4.get X4.any X4.any2 X7.get X7.any X7.any2 q32.get (X0_2.ne q31 (some (AObj.box 123 [(.v (.int .i64 y31.2.finder.at_)), (.v (.int .i64 y31.2.finder.e)), (.mp j0_2)]))).get q33.get q34.get q35.get (q32.ne q36 (some (AObj.map .s (mpF check_solver_calls_V0 (Mp.get y31.2.known)) (Mp.n y31.2.known)))).get q40.get (q33.ne q37 (some (AObj.map .s (mpF check_solver_calls_V0 (Mp.get y31.2.known)) (Mp.n y31.2.known)))).get (q34.ne q38 (some (AObj.map .s (mpF check_solver_calls_V0 (Mp.get y31.2.known)) (Mp.n y31.2.known)))).get (q35.ne q39 (some (AObj.map .s (mpF check_solver_calls_V0 (Mp.get y31.2.known)) (Mp.n y31.2.known)))).get TT
       have q42 := cj14 E0 E3 E4 E7 E26 E27 E28 X0.get X0.any X0.any2 X0_2.get X0_2.any X0_2.any2 q41
       exact cw_n ⟨_, WkE.refl _, (List.set (List.set s j0 (some (AObj.box 123 [(.v (.int .i64 y31.2.finder.at_)), (.v (.int .i64 y31.2.finder.e)), (.mp j0_2)]))) j0_2 (some (AObj.map .s (mpF check_solver_calls_V0 (Mp.get y31.2.known)) (Mp.n y31.2.known)))).length, (List.set (List.set τ j0 (some (AObj.box 123 [(.v (.int .i64 y31.2.finder.at_)), (.v (.int .i64 y31.2.finder.e)), (.mp j0_2)]))) j0_2 (some (AObj.map .s (mpF check_solver_calls_V0 (Mp.get y31.2.known)) (Mp.n y31.2.known)))), ((q32.ne q36 (some (AObj.map .s (mpF check_solver_calls_V0 (Mp.get y31.2.known)) (Mp.n y31.2.known)))).app [some (AObj.box 43 [(.v (.int .i64 y31.1.1.period)), (.v (.int .i64 y31.1.1.phase))])]), (q40.app [some (AObj.box 43 [(.v (.int .i64 y31.1.1.period)), (.v (.int .i64 y31.1.1.phase))])]), ((q33.ne q37 (some (AObj.map .s (mpF check_solver_calls_V0 (Mp.get y31.2.known)) (Mp.n y31.2.known)))).app [some (AObj.box 43 [(.v (.int .i64 y31.1.1.period)), (.v (.int .i64 y31.1.1.phase))])]), ((q34.ne q38 (some (AObj.map .s (mpF check_solver_calls_V0 (Mp.get y31.2.known)) (Mp.n y31.2.known)))).app [some (AObj.box 43 [(.v (.int .i64 y31.1.1.period)), (.v (.int .i64 y31.1.1.phase))])]), (Bx.newf ((hF.set (by simp) (some (AObj.box 123 [(.v (.int .i64 y31.2.finder.at_)), (.v (.int .i64 y31.2.finder.e)), (.mp j0_2)]))).set (by simp) (some (AObj.map .s (mpF check_solver_calls_V0 (Mp.get y31.2.known)) (Mp.n y31.2.known)))) ((hP.setp (hF.lt jl0) (some (AObj.box 123 [(.v (.int .i64 y31.2.finder.at_)), (.v (.int .i64 y31.2.finder.e)), (.mp j0_2)]))).setp ((hF.set (by simp) (some (AObj.box 123 [(.v (.int .i64 y31.2.finder.at_)), (.v (.int .i64 y31.2.finder.e)), (.mp j0_2)]))).lt jl0_2) (some (AObj.map .s (mpF check_solver_calls_V0 (Mp.get y31.2.known)) (Mp.n y31.2.known)))) 43 [(.v (.int .i64 y31.1.1.period)), (.v (.int .i64 y31.1.1.phase))]), (xv q42), (xv q42), (xv q42), (xv q42), (xv q42), (xv q42), (xv q42), (xv q42), N0__3, N0__4, (Nat.ne_of_lt (q32.ne q36 (some (AObj.map .s (mpF check_solver_calls_V0 (Mp.get y31.2.known)) (Mp.n y31.2.known)))).lt), ((hF.set (by simp) (some (AObj.box 123 [(.v (.int .i64 y31.2.finder.at_)), (.v (.int .i64 y31.2.finder.e)), (.mp j0_2)]))).set (by simp) (some (AObj.map .s (mpF check_solver_calls_V0 (Mp.get y31.2.known)) (Mp.n y31.2.known)))), (((hP.setp (hF.lt jl0) (some (AObj.box 123 [(.v (.int .i64 y31.2.finder.at_)), (.v (.int .i64 y31.2.finder.e)), (.mp j0_2)]))).setp ((hF.set (by simp) (some (AObj.box 123 [(.v (.int .i64 y31.2.finder.at_)), (.v (.int .i64 y31.2.finder.e)), (.mp j0_2)]))).lt jl0_2) (some (AObj.map .s (mpF check_solver_calls_V0 (Mp.get y31.2.known)) (Mp.n y31.2.known)))).app _)⟩
      obtain ⟨i8, τ, X0, X0_2, X3, X4, X8, E0, E3, E4, E8, E9, E26, E27, E28, N0__3, N0__4, N0__8, hF, hP⟩ := hI
      refine w_sa (fun e s => ∃ τ : Store, Gx s j0 (AObj.box 123 [(.v (.int .i64 y31.2.finder.at_)), (.v (.int .i64 y31.2.finder.e)), (.mp j0_2)]) ∧ Gx s j0_2 (AObj.map .s (mpF check_solver_calls_V0 (Mp.get y31.2.known)) (Mp.n y31.2.known)) ∧ Bx σ s i3 39 (check_solver_calls_A0 a1) ∧ Bx σ s i4 43 [(.v (.int .i64 y8.1.1.period)), (.v (.int .i64 y8.1.1.phase))] ∧ e 0 = (.pt j0 0) ∧ e 3 = (.pt i3 0) ∧ e 4 = (.pt i4 0) ∧ e 26 = (.sl (Expr.rows y11)) ∧ e 27 = (.v (.int .i64 ((List.length y11 : Nat) : Int))) ∧ e 28 = (.v (.int .i64 v28_18)) ∧ e 43 = (.v (.bool (y31.1.2 && (!(decide (y31.1.1.period = y8.1.1.period) && (decide (y31.1.1.phase = y8.1.1.phase))))))) ∧ j0 ≠ i3 ∧ j0 ≠ i4 ∧ Fr σ τ [j0, j0_2] ∧ Pre τ s) ?_ fun e s hI => ?_
      ·cases hb33 : y31.1.2
       ·refine w_x (cj15 E0 E3 E4 E8 E9 E26 E27 E28 X0.get X0_2.get X3.get X4.get X8.get hb33 TT) (k := ?_)
        have q43 := cj15 E0 E3 E4 E8 E9 E26 E27 E28 X0.get X0_2.get X3.get X4.get X8.get hb33 TT
        exact cw_n ⟨_, WkE.refl _, τ, X0, X0_2, X3, X4, (xv q43), (xv q43), (xv q43), (xv q43), (xv q43), (xv q43), (xv q43), N0__3, N0__4, hF, hP⟩
       ·refine w_x (cj15 E0 E3 E4 E8 E9 E26 E27 E28 X0.get X0_2.get X3.get X4.get X8.get hb33 TT) (k := ?_)
        have q44 := cj15 E0 E3 E4 E8 E9 E26 E27 E28 X0.get X0_2.get X3.get X4.get X8.get hb33 TT
        exact cw_n ⟨_, WkE.refl _, τ, X0, X0_2, X3, X4, (xv q44), (xv q44), (xv q44), (xv q44), (xv q44), (xv q44), (xv q44), N0__3, N0__4, hF, hP⟩
      obtain ⟨τ, X0, X0_2, X3, X4, E0, E3, E4, E26, E27, E28, E43, N0__3, N0__4, hF, hP⟩ := hI
      obtain ⟨x34, h35, h25⟩ := bnd_some h25
      refine w_an (fun e s => ∃ vs_36 : check_solver, ∃ v0_2_37 : (Mp Clock), ∃ τ : Store, (vs_36, v0_2_37) = x34 ∧ Gx s j0 (AObj.box 123 [(.v (.int .i64 vs_36.finder.at_)), (.v (.int .i64 vs_36.finder.e)), (.mp j0_2)]) ∧ Gx s j0_2 (AObj.map .s (mpF check_solver_calls_V0 (Mp.get v0_2_37)) (Mp.n v0_2_37)) ∧ Bx σ s i3 39 (check_solver_calls_A0 a1) ∧ Bx σ s i4 43 [(.v (.int .i64 y8.1.1.period)), (.v (.int .i64 y8.1.1.phase))] ∧ e 0 = (.pt j0 0) ∧ e 3 = (.pt i3 0) ∧ e 4 = (.pt i4 0) ∧ e 26 = (.sl (Expr.rows y11)) ∧ e 27 = (.v (.int .i64 ((List.length y11 : Nat) : Int))) ∧ e 28 = (.v (.int .i64 v28_18)) ∧ j0 ≠ i3 ∧ j0 ≠ i4 ∧ Fr σ τ [j0, j0_2] ∧ Pre τ s) ?_ fun e s hI => ?_
      ·rcases ite_some h35 with ⟨hb38, h35⟩ | ⟨hb38, h35⟩
       ·refine xt (cj8 E0 E3 E4 E26 E27 E28 E43 hb38) ?_
        obtain ⟨y39, h40, h35⟩ := bnd_some h35
        have q45 := Gx.apart X0 X0_2 (by intro h; cases h)
        have q46 := Gx.same X0 (AObj.box 123 [(.v (.int .i64 y39.2.finder.at_)), (.v (.int .i64 y39.2.finder.e)), (.mp j0_2)])
        have q47 := X3.ne N0__3 (some (AObj.box 123 [(.v (.int .i64 y39.2.finder.at_)), (.v (.int .i64 y39.2.finder.e)), (.mp j0_2)]))
        have q48 := X4.ne N0__4 (some (AObj.box 123 [(.v (.int .i64 y39.2.finder.at_)), (.v (.int .i64 y39.2.finder.e)), (.mp j0_2)]))
        refine w_xd 5 0 (cj20 E0 E3 E4 E26 E27 E28 E43 X0.get X0_2.get X3.get X4.get q46.get (X0_2.ne q45 (some (AObj.box 123 [(.v (.int .i64 y39.2.finder.at_)), (.v (.int .i64 y39.2.finder.e)), (.mp j0_2)]))).get q47.get q48.get (q46.ne (Gx.apart (X0_2.ne q45 (some (AObj.box 123 [(.v (.int .i64 y39.2.finder.at_)), (.v (.int .i64 y39.2.finder.e)), (.mp j0_2)]))) q46 (by intro h; cases h)) (some (AObj.map .s (mpF check_solver_calls_V0 (Mp.get y39.2.known)) (Mp.n y39.2.known)))).get (Gx.same (X0_2.ne q45 (some (AObj.box 123 [(.v (.int .i64 y39.2.finder.at_)), (.v (.int .i64 y39.2.finder.e)), (.mp j0_2)]))) (AObj.map .s (mpF check_solver_calls_V0 (Mp.get y39.2.known)) (Mp.n y39.2.known))).get (q47.ne (Gx.apart (X0_2.ne q45 (some (AObj.box 123 [(.v (.int .i64 y39.2.finder.at_)), (.v (.int .i64 y39.2.finder.e)), (.mp j0_2)]))) q47.gx (by intro h; cases h)) (some (AObj.map .s (mpF check_solver_calls_V0 (Mp.get y39.2.known)) (Mp.n y39.2.known)))).get (q48.ne (Gx.apart (X0_2.ne q45 (some (AObj.box 123 [(.v (.int .i64 y39.2.finder.at_)), (.v (.int .i64 y39.2.finder.e)), (.mp j0_2)]))) q48.gx (by intro h; cases h)) (some (AObj.map .s (mpF check_solver_calls_V0 (Mp.get y39.2.known)) (Mp.n y39.2.known)))).get TT) (hk := ?_)
        have q49 := Gx.apart X0 X0_2 (by intro h; cases h)
        have q50 := Gx.same X0 (AObj.box 123 [(.v (.int .i64 y39.2.finder.at_)), (.v (.int .i64 y39.2.finder.e)), (.mp j0_2)])
        have q51 := X3.ne N0__3 (some (AObj.box 123 [(.v (.int .i64 y39.2.finder.at_)), (.v (.int .i64 y39.2.finder.e)), (.mp j0_2)]))
        have q52 := X4.ne N0__4 (some (AObj.box 123 [(.v (.int .i64 y39.2.finder.at_)), (.v (.int .i64 y39.2.finder.e)), (.mp j0_2)]))
        refine w_xs (cj20 E0 E3 E4 E26 E27 E28 E43 X0.get X0_2.get X3.get X4.get q50.get (X0_2.ne q49 (some (AObj.box 123 [(.v (.int .i64 y39.2.finder.at_)), (.v (.int .i64 y39.2.finder.e)), (.mp j0_2)]))).get q51.get q52.get (q50.ne (Gx.apart (X0_2.ne q49 (some (AObj.box 123 [(.v (.int .i64 y39.2.finder.at_)), (.v (.int .i64 y39.2.finder.e)), (.mp j0_2)]))) q50 (by intro h; cases h)) (some (AObj.map .s (mpF check_solver_calls_V0 (Mp.get y39.2.known)) (Mp.n y39.2.known)))).get (Gx.same (X0_2.ne q49 (some (AObj.box 123 [(.v (.int .i64 y39.2.finder.at_)), (.v (.int .i64 y39.2.finder.e)), (.mp j0_2)]))) (AObj.map .s (mpF check_solver_calls_V0 (Mp.get y39.2.known)) (Mp.n y39.2.known))).get (q51.ne (Gx.apart (X0_2.ne q49 (some (AObj.box 123 [(.v (.int .i64 y39.2.finder.at_)), (.v (.int .i64 y39.2.finder.e)), (.mp j0_2)]))) q51.gx (by intro h; cases h)) (some (AObj.map .s (mpF check_solver_calls_V0 (Mp.get y39.2.known)) (Mp.n y39.2.known)))).get (q52.ne (Gx.apart (X0_2.ne q49 (some (AObj.box 123 [(.v (.int .i64 y39.2.finder.at_)), (.v (.int .i64 y39.2.finder.e)), (.mp j0_2)]))) q52.gx (by intro h; cases h)) (some (AObj.map .s (mpF check_solver_calls_V0 (Mp.get y39.2.known)) (Mp.n y39.2.known)))).get TT) (k := ?_)
        refine EC.wka (.cons (.refl _) (.cons (.refl _) (.cons (.refl _) .nil))) (S_check_finder_fail_in_check_solver _ _ _ _ h40 _ _ _ _ X0 X0_2 ?_)
        have q53 := Gx.apart X0 X0_2 (by intro h; cases h)
        have q54 := Gx.same X0 (AObj.box 123 [(.v (.int .i64 y39.2.finder.at_)), (.v (.int .i64 y39.2.finder.e)), (.mp j0_2)])
        have q55 := X3.ne N0__3 (some (AObj.box 123 [(.v (.int .i64 y39.2.finder.at_)), (.v (.int .i64 y39.2.finder.e)), (.mp j0_2)]))
        have q56 := X4.ne N0__4 (some (AObj.box 123 [(.v (.int .i64 y39.2.finder.at_)), (.v (.int .i64 y39.2.finder.e)), (.mp j0_2)]))
        refine w_y (cj20 E0 E3 E4 E26 E27 E28 E43 X0.get X0_2.get X3.get X4.get q54.get (X0_2.ne q53 (some (AObj.box 123 [(.v (.int .i64 y39.2.finder.at_)), (.v (.int .i64 y39.2.finder.e)), (.mp j0_2)]))).get q55.get q56.get (q54.ne (Gx.apart (X0_2.ne q53 (some (AObj.box 123 [(.v (.int .i64 y39.2.finder.at_)), (.v (.int .i64 y39.2.finder.e)), (.mp j0_2)]))) q54 (by intro h; cases h)) (some (AObj.map .s (mpF check_solver_calls_V0 (Mp.get y39.2.known)) (Mp.n y39.2.known)))).get (Gx.same (X0_2.ne q53 (some (AObj.box 123 [(.v (.int .i64 y39.2.finder.at_)), (.v (.int .i64 y39.2.finder.e)), (.mp j0_2)]))) (AObj.map .s (mpF check_solver_calls_V0 (Mp.get y39.2.known)) (Mp.n y39.2.known))).get (q55.ne (Gx.apart (X0_2.ne q53 (some (AObj.box 123 [(.v (.int .i64 y39.2.finder.at_)), (.v (.int .i64 y39.2.finder.e)), (.mp j0_2)]))) q55.gx (by intro h; cases h)) (some (AObj.map .s (mpF check_solver_calls_V0 (Mp.get y39.2.known)) (Mp.n y39.2.known)))).get (q56.ne (Gx.apart (X0_2.ne q53 (some (AObj.box 123 [(.v (.int .i64 y39.2.finder.at_)), (.v (.int .i64 y39.2.finder.e)), (.mp j0_2)]))) q56.gx (by intro h; cases h)) (some (AObj.map .s (mpF check_solver_calls_V0 (Mp.get y39.2.known)) (Mp.n y39.2.known)))).get TT) (k := ?_)
        obtain rfl := some_inj h35
        have q57 := Gx.apart X0 X0_2 (by intro h; cases h)
        have q58 := Gx.same X0 (AObj.box 123 [(.v (.int .i64 y39.2.finder.at_)), (.v (.int .i64 y39.2.finder.e)), (.mp j0_2)])
        have q59 := X3.ne N0__3 (some (AObj.box 123 [(.v (.int .i64 y39.2.finder.at_)), (.v (.int .i64 y39.2.finder.e)), (.mp j0_2)]))
        have q60 := X4.ne N0__4 (some (AObj.box 123 [(.v (.int .i64 y39.2.finder.at_)), (.v (.int .i64 y39.2.finder.e)), (.mp j0_2)]))
        have q61 := Gx.apart (X0_2.ne q57 (some (AObj.box 123 [(.v (.int .i64 y39.2.finder.at_)), (.v (.int .i64 y39.2.finder.e)), (.mp j0_2)]))) q58 (by intro h; cases h)
        have q62 := Gx.apart (X0_2.ne q57 (some (AObj.box 123 [(.v (.int .i64 y39.2.finder.at_)), (.v (.int .i64 y39.2.finder.e)), (.mp j0_2)]))) q59.gx (by intro h; cases h)
        have q63 := Gx.apart (X0_2.ne q57 (some (AObj.box 123 [(.v (.int .i64 y39.2.finder.at_)), (.v (.int .i64 y39.2.finder.e)), (.mp j0_2)]))) q60.gx (by intro h; cases h)
        have q64 := Gx.same (X0_2.ne q57 (some (AObj.box 123 [(.v (.int .i64 y39.2.finder.at_)), (.v (.int .i64 y39.2.finder.e)), (.mp j0_2)]))) (AObj.map .s (mpF check_solver_calls_V0 (Mp.get y39.2.known)) (Mp.n y39.2.known))
        have q65 := cj20 E0 E3 E4 E26 E27 E28 E43 X0.get X0_2.get X3.get X4.get q58.get (X0_2.ne q57 (some (AObj.box 123 [(.v (.int .i64 y39.2.finder.at_)), (.v (.int .i64 y39.2.finder.e)), (.mp j0_2)]))).get q59.get q60.get (q58.ne q61 (some (AObj.map .s (mpF check_solver_calls_V0 (Mp.get y39.2.known)) (Mp.n y39.2.known)))).get q64.get (q59.ne q62 (some (AObj.map .s (mpF check_solver_calls_V0 (Mp.get y39.2.known)) (Mp.n y39.2.known)))).get (q60.ne q63 (some (AObj.map .s (mpF check_solver_calls_V0 (Mp.get y39.2.known)) (Mp.n y39.2.known)))).get TT
        exact ct_n ⟨_, _, (List.set (List.set τ j0 (some (AObj.box 123 [(.v (.int .i64 y39.2.finder.at_)), (.v (.int .i64 y39.2.finder.e)), (.mp j0_2)]))) j0_2 (some (AObj.map .s (mpF check_solver_calls_V0 (Mp.get y39.2.known)) (Mp.n y39.2.known)))), rfl, (q58.ne q61 (some (AObj.map .s (mpF check_solver_calls_V0 (Mp.get y39.2.known)) (Mp.n y39.2.known)))), q64, (q59.ne q62 (some (AObj.map .s (mpF check_solver_calls_V0 (Mp.get y39.2.known)) (Mp.n y39.2.known)))), (q60.ne q63 (some (AObj.map .s (mpF check_solver_calls_V0 (Mp.get y39.2.known)) (Mp.n y39.2.known)))), (xv q65), (xv q65), (xv q65), (xv q65), (xv q65), (xv q65), N0__3, N0__4, ((hF.set (by simp) (some (AObj.box 123 [(.v (.int .i64 y39.2.finder.at_)), (.v (.int .i64 y39.2.finder.e)), (.mp j0_2)]))).set (by simp) (some (AObj.map .s (mpF check_solver_calls_V0 (Mp.get y39.2.known)) (Mp.n y39.2.known)))), ((hP.setp (hF.lt jl0) (some (AObj.box 123 [(.v (.int .i64 y39.2.finder.at_)), (.v (.int .i64 y39.2.finder.e)), (.mp j0_2)]))).setp ((hF.set (by simp) (some (AObj.box 123 [(.v (.int .i64 y39.2.finder.at_)), (.v (.int .i64 y39.2.finder.e)), (.mp j0_2)]))).lt jl0_2) (some (AObj.map .s (mpF check_solver_calls_V0 (Mp.get y39.2.known)) (Mp.n y39.2.known))))⟩
       ·refine xf (cj8 E0 E3 E4 E26 E27 E28 E43 hb38) ?_
        refine w_skip ?_
        obtain rfl := some_inj h35
        have q66 := cj7 E0 E3 E4 E26 E27 E28 E43
        exact ct_n ⟨_, _, τ, rfl, X0, X0_2, X3, X4, (xv q66), (xv q66), (xv q66), (xv q66), (xv q66), (xv q66), N0__3, N0__4, hF, hP⟩
      obtain ⟨vs_36, v0_2_37, τ, rfl, X0, X0_2, X3, X4, E0, E3, E4, E26, E27, E28, N0__3, N0__4, hF, hP⟩ := hI
      try dsimp only at h25
      refine w_bk ?_
      obtain rfl := some_inj h25
      have q67 := cj6 E0 E3 E4 E26 E27 E28
      exact cw_n ⟨_, WkE.refl _, _, _, τ, rfl, X0, X0_2, X3, X4, (xv q67), (xv q67), (xv q67), (xv q67), (xv q67), (xv q67), N0__3, N0__4, hF, hP⟩
     obtain ⟨vs_26, v0_2_27, τ, rfl, X0, X0_2, X3, X4, E0, E3, E4, E26, E27, E28, N0__3, N0__4, hF, hP⟩ := hI
     try dsimp only at hf22
     refine w_x (cj11 E0 E3 E4 E26 E27 E28 X0.get X0_2.get X3.get X4.get TT) (k := ?_)
     obtain rfl := some_inj hf22
     have q68 := cj11 E0 E3 E4 E26 E27 E28 X0.get X0_2.get X3.get X4.get TT
     exact iq_n rfl ⟨_, WkE.refl _, _, _, _, τ, rfl, X0, X0_2, X3, X4, (xv q68), (xv q68), (xv q68), (xv q68), (xv q68), (xv q68), N0__3, N0__4, hF, hP⟩
    ·refine xf (cj8 E0 E3 E4 E26 E27 E28 E29 hb23) ?_
     refine w_exit ?_
     refine w_sqx ?_
     obtain rfl := some_inj hf22
     refine iq_x rfl fun hr41 => ?_
     obtain rfl := hr41
     refine w_bkx ?_
     have q69 := cj7 E0 E3 E4 E26 E27 E28 E29
     exact ct_n ⟨_, _, τ, rfl, X0, X0_2, X3, (xv q69), (xv q69), N0__3, hF, hP⟩
   obtain ⟨vs_16, v0_2_17, τ, rfl, X0, X0_2, X3, E0, E3, N0__3, hF, hP⟩ := hI
   try dsimp only at h2
   obtain rfl := some_inj h2
   exact cw_n ⟨_, WkE.refl _, _, _, τ, rfl, X0, X0_2, X3, (xv (cj2 E0 E3)), (xv (cj2 E0 E3)), N0__3, hF, hP⟩
  ·refine xf (cj4 E0 E3 E14 hb5) ?_
   refine w_skip ?_
   obtain rfl := some_inj h2
   exact cw_n ⟨_, WkE.refl _, _, _, τ, rfl, X0, X0_2, X3, (xv (cj3 E0 E3 E14)), (xv (cj3 E0 E3 E14)), N0__3, hF, hP⟩
 obtain ⟨vs_3, v0_2_4, τ, rfl, X0, X0_2, X3, E0, E3, N0__3, hF, hP⟩ := hI
 try dsimp only at h
 refine w_sa (fun e s => ∃ τ : Store, Gx s j0 (AObj.box 123 [(.v (.int .i64 vs_3.finder.at_)), (.v (.int .i64 vs_3.finder.e)), (.mp j0_2)]) ∧ Gx s j0_2 (AObj.map .s (mpF check_solver_calls_V0 (Mp.get v0_2_4)) (Mp.n v0_2_4)) ∧ e 0 = (.pt j0 0) ∧ e 52 = (.sl (Expr.rows a1.args)) ∧ e 53 = (.v (.int .i64 ((List.length a1.args : Nat) : Int))) ∧ e 54 = (.v (.int .i64 (0 : Int))) ∧ Fr σ τ [j0, j0_2] ∧ Pre τ s) ?_ fun e s hI => ?_
 ·refine w_x (cj6 E0 E3 X0.get X0_2.get X3.get TT) (k := ?_)
  have q70 := cj6 E0 E3 X0.get X0_2.get X3.get TT
  exact cw_n ⟨_, WkE.refl _, τ, X0, X0_2, (xv q70), (xv q70), (xv q70), (xv q70), hF, hP⟩
 obtain ⟨τ, X0, X0_2, E0, E52, E53, E54, hF, hP⟩ := hI
 obtain ⟨x42, h43, h⟩ := bnd_some h
 refine w_an (fun e s => ∃ vs_44 : check_solver, ∃ v0_2_45 : (Mp Clock), ∃ τ : Store, (vs_44, v0_2_45) = x42 ∧ Gx s j0 (AObj.box 123 [(.v (.int .i64 vs_44.finder.at_)), (.v (.int .i64 vs_44.finder.e)), (.mp j0_2)]) ∧ Gx s j0_2 (AObj.map .s (mpF check_solver_calls_V0 (Mp.get v0_2_45)) (Mp.n v0_2_45)) ∧ Fr σ τ [j0, j0_2] ∧ Pre τ s) ?_ fun e s hI => ?_
 ·refine w_block ?_
  have q71 := cj4 E0 E52 E53 E54
  refine w_iter h43 (fun v e s => ∃ v54_46 : Int, ∃ vs_47 : check_solver, ∃ v0_2_48 : (Mp Clock), ∃ τ : Store, (v54_46, vs_47, v0_2_48) = v ∧ Gx s j0 (AObj.box 123 [(.v (.int .i64 vs_47.finder.at_)), (.v (.int .i64 vs_47.finder.e)), (.mp j0_2)]) ∧ Gx s j0_2 (AObj.map .s (mpF check_solver_calls_V0 (Mp.get v0_2_48)) (Mp.n v0_2_48)) ∧ e 0 = (.pt j0 0) ∧ e 52 = (.sl (Expr.rows a1.args)) ∧ e 53 = (.v (.int .i64 ((List.length a1.args : Nat) : Int))) ∧ e 54 = (.v (.int .i64 v54_46)) ∧ Fr σ τ [j0, j0_2] ∧ Pre τ s) ⟨_, WkE.refl _, _, _, _, τ, rfl, X0, X0_2, (xv q71), (xv q71), (xv q71), (xv q71), hF, hP⟩ fun v x49 e s hf50 hI => ?_
  obtain ⟨v54_46, vs_47, v0_2_48, τ, rfl, X0, X0_2, E0, E52, E53, E54, hF, hP⟩ := hI
  unfold check_solver_calls_L1 at hf50
  try dsimp only at hf50
  refine w_sa (fun e s => ∃ τ : Store, Gx s j0 (AObj.box 123 [(.v (.int .i64 vs_47.finder.at_)), (.v (.int .i64 vs_47.finder.e)), (.mp j0_2)]) ∧ Gx s j0_2 (AObj.map .s (mpF check_solver_calls_V0 (Mp.get v0_2_48)) (Mp.n v0_2_48)) ∧ e 0 = (.pt j0 0) ∧ e 52 = (.sl (Expr.rows a1.args)) ∧ e 53 = (.v (.int .i64 ((List.length a1.args : Nat) : Int))) ∧ e 54 = (.v (.int .i64 v54_46)) ∧ e 55 = (.v (.bool (decide (v54_46 < ((List.length a1.args : Nat) : Int))))) ∧ Fr σ τ [j0, j0_2] ∧ Pre τ s) ?_ fun e s hI => ?_
  ·refine w_x (cj7 E0 E52 E53 E54 X0.get X0_2.get TT) (k := ?_)
   have q72 := cj7 E0 E52 E53 E54 X0.get X0_2.get TT
   exact cw_n ⟨_, WkE.refl _, τ, X0, X0_2, (xv q72), (xv q72), (xv q72), (xv q72), (xv q72), hF, hP⟩
  obtain ⟨τ, X0, X0_2, E0, E52, E53, E54, E55, hF, hP⟩ := hI
  refine w_seq ?_
  rcases ite_some hf50 with ⟨hb51, hf50⟩ | ⟨hb51, hf50⟩
  ·refine xt (cj6 E0 E52 E53 E54 E55 hb51) ?_
   refine w_skip ?_
   refine w_sq ?_
   obtain ⟨x52, h53, hf50⟩ := bnd_some hf50
   refine w_sa (fun e s => ∃ vs_54 : check_solver, ∃ v0_2_55 : (Mp Clock), ∃ τ : Store, (vs_54, v0_2_55) = x52 ∧ Gx s j0 (AObj.box 123 [(.v (.int .i64 vs_54.finder.at_)), (.v (.int .i64 vs_54.finder.e)), (.mp j0_2)]) ∧ Gx s j0_2 (AObj.map .s (mpF check_solver_calls_V0 (Mp.get v0_2_55)) (Mp.n v0_2_55)) ∧ e 0 = (.pt j0 0) ∧ e 52 = (.sl (Expr.rows a1.args)) ∧ e 53 = (.v (.int .i64 ((List.length a1.args : Nat) : Int))) ∧ e 54 = (.v (.int .i64 v54_46)) ∧ Fr σ τ [j0, j0_2] ∧ Pre τ s) ?_ fun e s hI => ?_
   ·refine w_block ?_
    obtain ⟨y56, h57, h53⟩ := bnd_some h53
    refine w_sa (fun e s => ∃ i11 : Nat, ∃ τ : Store, Gx s j0 (AObj.box 123 [(.v (.int .i64 vs_47.finder.at_)), (.v (.int .i64 vs_47.finder.e)), (.mp j0_2)]) ∧ Gx s j0_2 (AObj.map .s (mpF check_solver_calls_V0 (Mp.get v0_2_48)) (Mp.n v0_2_48)) ∧ Bx σ s i11 39 [(.v (.int .i64 y56.kind)), (.v (.string y56.name)), (.v (.int .i64 y56.n)), (.v (.int .i64 y56.d)), (.sl (Expr.rows y56.args)), (.v (.int .i64 y56.at_))] ∧ e 0 = (.pt j0 0) ∧ e 11 = (.pt i11 0) ∧ e 52 = (.sl (Expr.rows a1.args)) ∧ e 53 = (.v (.int .i64 ((List.length a1.args : Nat) : Int))) ∧ e 54 = (.v (.int .i64 v54_46)) ∧ j0 ≠ i11 ∧ Fr σ τ [j0, j0_2] ∧ Pre τ s) ?_ fun e s hI => ?_
    ·have R58 : (Expr.rows a1.args)[(v54_46).toNat]? = some [(.v (.int .i64 y56.kind)), (.v (.string y56.name)), (.v (.int .i64 y56.n)), (.v (.int .i64 y56.d)), (.sl (Expr.rows y56.args)), (.v (.int .i64 y56.at_))] := Expr.rget (getI_some h57).2
     refine w_x (cj14 E0 E52 E53 E54 E55 X0.get X0.any X0.any2 X0_2.get X0_2.any X0_2.any2 R58 (getI_some h57).1 TT) (k := ?_)
     have q73 := cj14 E0 E52 E53 E54 E55 X0.get X0.any X0.any2 X0_2.get X0_2.any X0_2.any2 R58 (getI_some h57).1 TT
     exact cw_n ⟨_, WkE.refl _, s.length, τ, (X0.app [some (AObj.box 39 [(.v (.int .i64 y56.kind)), (.v (.string y56.name)), (.v (.int .i64 y56.n)), (.v (.int .i64 y56.d)), (.sl (Expr.rows y56.args)), (.v (.int .i64 y56.at_))])]), (X0_2.app [some (AObj.box 39 [(.v (.int .i64 y56.kind)), (.v (.string y56.name)), (.v (.int .i64 y56.n)), (.v (.int .i64 y56.d)), (.sl (Expr.rows y56.args)), (.v (.int .i64 y56.at_))])]), (Bx.newf hF hP 39 [(.v (.int .i64 y56.kind)), (.v (.string y56.name)), (.v (.int .i64 y56.n)), (.v (.int .i64 y56.d)), (.sl (Expr.rows y56.args)), (.v (.int .i64 y56.at_))]), (xv q73), (xv q73), (xv q73), (xv q73), (xv q73), (Nat.ne_of_lt X0.lt), hF, (hP.app _)⟩
    obtain ⟨i11, τ, X0, X0_2, X11, E0, E11, E52, E53, E54, N0__11, hF, hP⟩ := hI
    obtain ⟨y59, h60, h53⟩ := bnd_some h53
    have q74 := Gx.apart X0 X0_2 (by intro h; cases h)
    have q75 := Gx.same X0 (AObj.box 123 [(.v (.int .i64 y59.2.finder.at_)), (.v (.int .i64 y59.2.finder.e)), (.mp j0_2)])
    have q76 := X11.ne N0__11 (some (AObj.box 123 [(.v (.int .i64 y59.2.finder.at_)), (.v (.int .i64 y59.2.finder.e)), (.mp j0_2)]))
    refine w_x (cj15 E0 E11 E52 E53 E54 X0.get X0_2.get X11.get q75.get (X0_2.ne q74 (some (AObj.box 123 [(.v (.int .i64 y59.2.finder.at_)), (.v (.int .i64 y59.2.finder.e)), (.mp j0_2)]))).get q76.get (q75.ne (Gx.apart (X0_2.ne q74 (some (AObj.box 123 [(.v (.int .i64 y59.2.finder.at_)), (.v (.int .i64 y59.2.finder.e)), (.mp j0_2)]))) q75 (by intro h; cases h)) (some (AObj.map .s (mpF check_solver_calls_V0 (Mp.get y59.2.known)) (Mp.n y59.2.known)))).get (Gx.same (X0_2.ne q74 (some (AObj.box 123 [(.v (.int .i64 y59.2.finder.at_)), (.v (.int .i64 y59.2.finder.e)), (.mp j0_2)]))) (AObj.map .s (mpF check_solver_calls_V0 (Mp.get y59.2.known)) (Mp.n y59.2.known))).get (q76.ne (Gx.apart (X0_2.ne q74 (some (AObj.box 123 [(.v (.int .i64 y59.2.finder.at_)), (.v (.int .i64 y59.2.finder.e)), (.mp j0_2)]))) q76.gx (by intro h; cases h)) (some (AObj.map .s (mpF check_solver_calls_V0 (Mp.get y59.2.known)) (Mp.n y59.2.known)))).get TT) (k := ?_)
    refine EC.wka (.cons (.refl _) (.cons (.refl _) .nil)) (S_check_solver_calls _ _ _ h60 _ _ _ _ X0 X0_2 ?_)
    have q77 := Gx.apart X0 X0_2 (by intro h; cases h)
    have q78 := Gx.same X0 (AObj.box 123 [(.v (.int .i64 y59.2.finder.at_)), (.v (.int .i64 y59.2.finder.e)), (.mp j0_2)])
    have q79 := X11.ne N0__11 (some (AObj.box 123 [(.v (.int .i64 y59.2.finder.at_)), (.v (.int .i64 y59.2.finder.e)), (.mp j0_2)]))
    refine w_y (cj15 E0 E11 E52 E53 E54 X0.get X0_2.get X11.get q78.get (X0_2.ne q77 (some (AObj.box 123 [(.v (.int .i64 y59.2.finder.at_)), (.v (.int .i64 y59.2.finder.e)), (.mp j0_2)]))).get q79.get (q78.ne (Gx.apart (X0_2.ne q77 (some (AObj.box 123 [(.v (.int .i64 y59.2.finder.at_)), (.v (.int .i64 y59.2.finder.e)), (.mp j0_2)]))) q78 (by intro h; cases h)) (some (AObj.map .s (mpF check_solver_calls_V0 (Mp.get y59.2.known)) (Mp.n y59.2.known)))).get (Gx.same (X0_2.ne q77 (some (AObj.box 123 [(.v (.int .i64 y59.2.finder.at_)), (.v (.int .i64 y59.2.finder.e)), (.mp j0_2)]))) (AObj.map .s (mpF check_solver_calls_V0 (Mp.get y59.2.known)) (Mp.n y59.2.known))).get (q79.ne (Gx.apart (X0_2.ne q77 (some (AObj.box 123 [(.v (.int .i64 y59.2.finder.at_)), (.v (.int .i64 y59.2.finder.e)), (.mp j0_2)]))) q79.gx (by intro h; cases h)) (some (AObj.map .s (mpF check_solver_calls_V0 (Mp.get y59.2.known)) (Mp.n y59.2.known)))).get TT) (k := ?_)
    refine w_bk ?_
    obtain rfl := some_inj h53
    have q80 := Gx.apart X0 X0_2 (by intro h; cases h)
    have q81 := Gx.same X0 (AObj.box 123 [(.v (.int .i64 y59.2.finder.at_)), (.v (.int .i64 y59.2.finder.e)), (.mp j0_2)])
    have q82 := X11.ne N0__11 (some (AObj.box 123 [(.v (.int .i64 y59.2.finder.at_)), (.v (.int .i64 y59.2.finder.e)), (.mp j0_2)]))
    have q83 := Gx.apart (X0_2.ne q80 (some (AObj.box 123 [(.v (.int .i64 y59.2.finder.at_)), (.v (.int .i64 y59.2.finder.e)), (.mp j0_2)]))) q81 (by intro h; cases h)
    have q84 := Gx.apart (X0_2.ne q80 (some (AObj.box 123 [(.v (.int .i64 y59.2.finder.at_)), (.v (.int .i64 y59.2.finder.e)), (.mp j0_2)]))) q82.gx (by intro h; cases h)
    have q85 := Gx.same (X0_2.ne q80 (some (AObj.box 123 [(.v (.int .i64 y59.2.finder.at_)), (.v (.int .i64 y59.2.finder.e)), (.mp j0_2)]))) (AObj.map .s (mpF check_solver_calls_V0 (Mp.get y59.2.known)) (Mp.n y59.2.known))
    have q86 := cj15 E0 E11 E52 E53 E54 X0.get X0_2.get X11.get q81.get (X0_2.ne q80 (some (AObj.box 123 [(.v (.int .i64 y59.2.finder.at_)), (.v (.int .i64 y59.2.finder.e)), (.mp j0_2)]))).get q82.get (q81.ne q83 (some (AObj.map .s (mpF check_solver_calls_V0 (Mp.get y59.2.known)) (Mp.n y59.2.known)))).get q85.get (q82.ne q84 (some (AObj.map .s (mpF check_solver_calls_V0 (Mp.get y59.2.known)) (Mp.n y59.2.known)))).get TT
    exact cw_n ⟨_, WkE.refl _, _, _, (List.set (List.set τ j0 (some (AObj.box 123 [(.v (.int .i64 y59.2.finder.at_)), (.v (.int .i64 y59.2.finder.e)), (.mp j0_2)]))) j0_2 (some (AObj.map .s (mpF check_solver_calls_V0 (Mp.get y59.2.known)) (Mp.n y59.2.known)))), rfl, (q81.ne q83 (some (AObj.map .s (mpF check_solver_calls_V0 (Mp.get y59.2.known)) (Mp.n y59.2.known)))), q85, (xv q86), (xv q86), (xv q86), (xv q86), ((hF.set (by simp) (some (AObj.box 123 [(.v (.int .i64 y59.2.finder.at_)), (.v (.int .i64 y59.2.finder.e)), (.mp j0_2)]))).set (by simp) (some (AObj.map .s (mpF check_solver_calls_V0 (Mp.get y59.2.known)) (Mp.n y59.2.known)))), ((hP.setp (hF.lt jl0) (some (AObj.box 123 [(.v (.int .i64 y59.2.finder.at_)), (.v (.int .i64 y59.2.finder.e)), (.mp j0_2)]))).setp ((hF.set (by simp) (some (AObj.box 123 [(.v (.int .i64 y59.2.finder.at_)), (.v (.int .i64 y59.2.finder.e)), (.mp j0_2)]))).lt jl0_2) (some (AObj.map .s (mpF check_solver_calls_V0 (Mp.get y59.2.known)) (Mp.n y59.2.known))))⟩
   obtain ⟨vs_54, v0_2_55, τ, rfl, X0, X0_2, E0, E52, E53, E54, hF, hP⟩ := hI
   try dsimp only at hf50
   refine w_x (cj7 E0 E52 E53 E54 X0.get X0_2.get TT) (k := ?_)
   obtain rfl := some_inj hf50
   have q87 := cj7 E0 E52 E53 E54 X0.get X0_2.get TT
   exact iq_n rfl ⟨_, WkE.refl _, _, _, _, τ, rfl, X0, X0_2, (xv q87), (xv q87), (xv q87), (xv q87), hF, hP⟩
  ·refine xf (cj6 E0 E52 E53 E54 E55 hb51) ?_
   refine w_exit ?_
   refine w_sqx ?_
   obtain rfl := some_inj hf50
   refine iq_x rfl fun hr61 => ?_
   obtain rfl := hr61
   refine w_bkx ?_
   exact ct_n ⟨_, _, τ, rfl, X0, X0_2, hF, hP⟩
 obtain ⟨vs_44, v0_2_45, τ, rfl, X0, X0_2, hF, hP⟩ := hI
 try dsimp only at h
 obtain rfl := some_inj h
 have hn62 : (List.map (·.1) ([(j0, (AObj.box 123 [(.v (.int .i64 vs_44.finder.at_)), (.v (.int .i64 vs_44.finder.e)), (.mp j0_2)])), (j0_2, (AObj.map .s (mpF check_solver_calls_V0 (Mp.get v0_2_45)) (Mp.n v0_2_45)))] : List (Nat × AObj))).Nodup := (List.nodup_cons.2 ⟨(by simp only [List.map_cons, List.map_nil, List.mem_cons, List.not_mem_nil, or_false, not_or]; exact (Gx.apart X0 X0_2 (by intro h; cases h))), (List.nodup_cons.2 ⟨(fun h => by simp at h), List.nodup_nil⟩)⟩)
 have he63 := Fr.eq (l := [(j0, (AObj.box 123 [(.v (.int .i64 vs_44.finder.at_)), (.v (.int .i64 vs_44.finder.e)), (.mp j0_2)])), (j0_2, (AObj.map .s (mpF check_solver_calls_V0 (Mp.get v0_2_45)) (Mp.n v0_2_45)))]) hF hn62 (List.forall_mem_cons.2 ⟨⟨jl0, (Gx.back X0 hP (hF.lt jl0))⟩, (List.forall_mem_cons.2 ⟨⟨jl0_2, (Gx.back X0_2 hP (hF.lt jl0_2))⟩, (fun x hx => absurd hx (by simp))⟩)⟩)
 exact w_end (fun h => absurd rfl h) (xr (rs := #[]) trivial) ⟨[(j0, (AObj.box 123 [(.v (.int .i64 vs_44.finder.at_)), (.v (.int .i64 vs_44.finder.e)), (.mp j0_2)])), (j0_2, (AObj.map .s (mpF check_solver_calls_V0 (Mp.get v0_2_45)) (Mp.n v0_2_45)))], hn62, (List.forall_mem_cons.2 ⟨⟨jl0, (ClO.bx (ClL.cons (Cn.cl (.v _) _) (ClL.cons (Cn.cl (.v _) _) (ClL.cons (Cl.mp jl0_2) ClL.nil))))⟩, (List.forall_mem_cons.2 ⟨⟨jl0_2, ((CnO.mp (fun _ => (.ag (CnL.cons (.v _) (CnL.cons (.v _) CnL.nil)))) _ _).cl _)⟩, (fun x hx => absurd hx (by simp))⟩)⟩), he63 ▸ hP, (.tu []), (.refl _), (.tu CnL.nil), hK⟩
end Go.Proofs.Ytohmmfimedgccaa.E
end
