import Derived.Test.YtohmmfimedgccaaQM5
/- Of every program, what is made flat is what the document's answer for that layer says. PART 7 OF 8: G58 FH FF G18 FJ G20 G21 G24 G27 -/
section
namespace Go.Proofs.Ytohmmfimedgccaa.E
set_option maxRecDepth 100000
set_option maxHeartbeats 4000000
set_option linter.unusedVariables false
set_option linter.unusedSimpArgs false
noncomputable def zL (v67 : Int) (y75 : Task) (a0 : qi) (f1 : qi → Arg → (List Task) → Option (Clock × Bool)) : (Int × (List Task)) → Option ((Int × (List Task)) ⊕ (List Task))
 | (v83, v84) =>
  if (decide (v83 < ((List.length y75.args : Nat) : Int))) then
   ((qB y75.args v83).bind fun y91 =>
   (f1 (qi.mk a0.p a0.flows a0.calls a0.at_ a0.error a0.e) y91 v84).bind fun y94 =>
   (if y94.2 then
    (qB v84 v67).bind fun y96 =>
    some (decide (y96.clock.period = (0 : Int)))
   else
    some false).bind fun w98 =>
   (if (y94.2 && w98) then
    (qB v84 v67).bind fun y108 =>
    (setO v84 v67 (Task.mk y108.node y94.1 y108.args)).bind fun y110 =>
    some y110
   else
    some v84 : Option (List Task)).bind fun v106 =>
   some v106 : Option (List Task)).bind fun v90 =>
   some (.inl ((IntKind.i64.wrap (v83 + (1 : Int))), v90))
  else
   some (.inr v84)
noncomputable def zM (v56 : (List Task)) (a0 : qi) (f1 : qi → Arg → (List Task) → Option (Clock × Bool)) : (Int × (List Task)) → Option ((Int × (List Task)) ⊕ (List Task))
 | (v67, v68) =>
  if (decide (v67 < ((List.length v56 : Nat) : Int))) then
   ((qB v68 v67).bind fun y75 =>
   (qz (zL v67 y75 a0 f1) ((0 : Int), v68) : Option (List Task)).bind fun v82 =>
   some v82 : Option (List Task)).bind fun v74 =>
   some (.inl ((IntKind.i64.wrap (v67 + (1 : Int))), v74))
  else
   some (.inr v68)
noncomputable def zN (v3 : (List Task)) (a0 : qi) (f1 : qi → Arg → (List Task) → Option (Clock × Bool)) : (Int × (List Task)) → Option ((Int × (List Task)) ⊕ (List Task))
 | (v55, v56) =>
  if (decide (v55 < ((List.length v3 : Nat) : Int))) then
   ((qz (zM v56 a0 f1) ((0 : Int), v56) : Option (List Task)).bind fun v66 =>
   some v66 : Option (List Task)).bind fun v62 =>
   some (.inl ((IntKind.i64.wrap (v55 + (1 : Int))), v62))
  else
   some (.inr v56)
noncomputable def zO (y12 : ql) (a0 : qi) (f0 : qi → Expr → ByteArray → Option Arg) : (Int × Task × (List Arg)) → Option ((Int × Task × (List Arg)) ⊕ (Task × (List Arg)))
 | (v19, v20, v21) =>
  if (decide (v19 < ((List.length y12.args : Nat) : Int))) then
   ((qB y12.args v19).bind fun y29 =>
   (qB y12.ways v19).bind fun y32 =>
   (f0 (qi.mk a0.p a0.flows a0.calls a0.at_ a0.error a0.e) y29 y32).bind fun y34 =>
   (zP 32 v21 ([y34])).bind fun y36 =>
   some ((Task.mk v20.node v20.clock y36), y36) : Option (Task × (List Arg))).bind fun (v27, v28) =>
   some (.inl ((IntKind.i64.wrap (v19 + (1 : Int))), (Task.mk v27.node v27.clock v28), v28))
  else
   some (.inr ((Task.mk v20.node v20.clock v21), v21))
noncomputable def Qe (a0 : qi) (f0 : qi → Expr → ByteArray → Option Arg) : (Int × (List Task)) → Option ((Int × (List Task)) ⊕ (List Task))
 | (v4, v5) =>
  if (decide (v4 < ((List.length a0.calls : Nat) : Int))) then
   ((qB a0.calls v4).bind fun y12 =>
   (qz (zO y12 a0 f0) ((0 : Int), (Task.mk y12.node (Clock.mk (0 : Int) (0 : Int)) ([] : List Arg)), ([] : List Arg)) : Option (Task × (List Arg))).bind fun (v17, v18) =>
   (zP 48 v5 ([(Task.mk v17.node v17.clock v18)])).bind fun y44 =>
   some y44 : Option (List Task)).bind fun v11 =>
   some (.inl ((IntKind.i64.wrap (v4 + (1 : Int))), v11))
  else
   some (.inr v5)
noncomputable def B_flat_maker_tasks (f0 : qi → Expr → ByteArray → Option Arg) (f1 : qi → Arg → (List Task) → Option (Clock × Bool)) (a0 : qi) : Option (List Task) :=
 (qz (Qe a0 f0) ((0 : Int), ([] : List Task)) : Option (List Task)).bind fun v3 =>
 (qz (zN v3 a0 f1) ((0 : Int), v3) : Option (List Task)).bind fun v54 =>
 some v54
abbrev C58_0 (z0 : Store) (z1 : Nat) (z2 : qi) (z3 z4 z5 : Nat) : Prop := Gx z0 z1 (AObj.box 130 [(.sl (List.map Node.cl z2.p.nodes)), (.sl (List.map Input.cl z2.p.inputs)), (.sl (List.map Flow.cl z2.p.flows)), (.sl (List.map Output.cl z2.p.outputs)), (.mp z3), (.ow z4 (List.map ql.cl z2.calls)), (.mp z5), (.v (.int .i64 z2.error)), (.v (.int .i64 z2.e))])
abbrev C58_1 (z0 : Store) (z1 : Nat) (z2 : qi) : Prop := Gx z0 z1 (AObj.map .s (mpF (fun v : Int => (PV.v (.int .i64 v))) (Mp.get z2.flows)) (Mp.n z2.flows))
abbrev C58_2 (z0 : Store) (z1 : Nat) (z2 : qi) : Prop := Gx z0 z1 (AObj.map .s (mpF (fun v : Int => (PV.v (.int .i64 v))) (Mp.get z2.at_)) (Mp.n z2.at_))
abbrev C58_3 (z0 : Store) (z1 : Nat) (z2 : (List Task)) : Prop := Gx z0 z1 (vcO 61 4 (List.map Task.cl z2))
abbrev C58_4 (z0 : Store) (z1 : Nat) (z2 : qi) : Prop := Gx z0 z1 (tkO 164 3 (List.length z2.calls))
abbrev C58_5 (z0 : Env) (z1 : Nat) (z2 : (List Task)) : Prop := z0 3 = (.vc z1 (List.length z2))
abbrev C58_6 (z0 z1 : Store) (z2 : Nat) (z3 : Task) (z4 : Nat) (z5 : (List Arg)) : Prop := Bx z0 z1 z2 61 [(.v (.int .i64 z3.node)), (.v (.int .i64 z3.clock.period)), (.v (.int .i64 z3.clock.phase)), (.ow z4 (List.map Arg.cl z5))]
abbrev C58_7 (z0 : Env) (z1 : Nat) (z2 : (List Task)) : Prop := z0 58 = (.vc z1 (List.length z2))
abbrev C58_8 (z0 : Env) (z1 : qi) : Prop := eS z0 18 ql.cl z1.calls
theorem W_flat_maker_tasks (f0 f1) (S0 : Sat_flat_maker_arg f0) (S1 : Sat_flat_maker_clock_vec f1) : Sat_flat_maker_tasks (B_flat_maker_tasks f0 f1) := by
 intro a0 r h σ K j0 j0_4 j0_5 j0_6 H0 H0_4 H0_5 H0_6 hK;refine qZ Try.func58 rfl rfl (by kernel_rfl) ?_;unfold B_flat_maker_tasks at h;have hP := Pre.refl σ;have jl0 := H0.lt;have jl0_4 := H0_4.lt;have jl0_5 := H0_5.lt;have jl0_6 := H0_6.lt;have E0 : qD [(.pt j0 0)] 0 = (.pt j0 0) := rfl;have TT := cj6 Arg.cle Clock.cle Expr.cle Expr.rlen T_107 (QJ T_127 T_128 T_130 T_164 T_2 T_27 T_3 T_30 T_37 T_39 T_43 T_46 T_59 T_61 T_66 T_68 T_9 T_97 Task.cle ql.cle);refine qe (w_x (cj5 H0.get H0_4.get H0_5.get H0_6.get TT) ?_);refine qf (qk (fun e s => ∃ i3_0 : Nat, C58_0 s j0 a0 j0_4 j0_5 j0_6 ∧ C58_1 s j0_4 a0 ∧ C58_4 s j0_5 a0 ∧ C58_2 s j0_6 a0 ∧ Gx s i3_0 (vcO 61 4 (List.map Task.cl ([] : List Task))) ∧ σ.length ≤ i3_0 ∧ eP e 0 j0 ∧ e 3 = (.vc i3_0 (List.length ([] : List Task))) ∧ j0_5 ≠ i3_0 ∧ Pre σ s) ?_ ?_)
 ·have q1 := cj5 H0.get H0_4.get H0_5.get H0_6.get TT;refine w_x q1 ?_;have q2 := Gx.cast (o' := (vcO 61 4 (List.map Task.cl ([] : List Task)))) (Gx.new σ AObj.hol) rfl;exact Yp (((Gh.refl _ _).tr Gh.hole).tr (Gh.tmp (t := 3) (p := (.v (.slice none 0 0))) (q := (.vc σ.length (List.length ([] : List Task)))) (xv q1) (Wq.hol q2.get Nilp.v))) ⟨σ.length, (H0.app _), (H0_4.app _), (H0_5.app _), (H0_6.app _), q2, (Pre.le hP), E0, (xv q1), (Nat.ne_of_lt H0_5.lt), (hP.app _)⟩
 rintro e s ⟨i3_0, X0, X0_4, X0_5, X0_6, X3_0, L3_0, E0, E3, N0_5__3_0, hP⟩
 refine qm (qe (w_x (cj6 E0 X0.get X0_4.get X0_5.get X0_6.get TT) ?_));refine qf ?_;obtain ⟨x1, h2, h⟩ := qb h;refine qk (fun e s => ∃ v3, v3 = x1 ∧ C58_0 s j0 a0 j0_4 j0_5 j0_6 ∧ C58_1 s j0_4 a0 ∧ C58_4 s j0_5 a0 ∧ C58_2 s j0_6 a0 ∧ C58_3 s i3_0 v3 ∧ σ.length ≤ i3_0 ∧ eP e 0 j0 ∧ C58_5 e i3_0 v3 ∧ j0_5 ≠ i3_0 ∧ Pre σ s) ?_ ?_
 ·refine qo (qH h2 (fun v e s => ∃ v4 v5, (v4, v5) = v ∧ C58_0 s j0 a0 j0_4 j0_5 j0_6 ∧ C58_1 s j0_4 a0 ∧ C58_4 s j0_5 a0 ∧ C58_2 s j0_6 a0 ∧ C58_3 s i3_0 v5 ∧ σ.length ≤ i3_0 ∧ eP e 0 j0 ∧ C58_5 e i3_0 v5 ∧ C58_8 e a0 ∧ eL e 19 a0.calls ∧ eI e 20 v4 ∧ j0_5 ≠ i3_0 ∧ Pre σ s) ⟨_, WkE.upd (WkE.refl _) (t := 18) (p := (.ow j0_5 (List.map ql.cl a0.calls))) (q := (.sl (List.map ql.cl a0.calls))) (xv TT) Wk.owr, _, _, rfl, X0, X0_4, X0_5, X0_6, X3_0, L3_0, E0, (xv (cj2 E3 TT)), (xv TT), (xv TT), (xv TT), N0_5__3_0, hP⟩ ?_)
  rintro v x6 e s hf7 ⟨v4, v5, rfl, X0, X0_4, X0_5, X0_6, X3_0, L3_0, E0, E3, E18, E19, E20, N0_5__3_0, hP⟩
  unfold Qe at hf7;(try dsimp only at hf7);refine qe (w_x (cj3 E19 E20 TT) ?_);refine qf (qe ?_);rcases qj hf7 with ⟨hb8, hf7⟩ | ⟨hb8, hf7⟩
  ·refine xt hb8 (qn (qf ?_));obtain ⟨x9, h10, hf7⟩ := qb hf7;refine qk (fun e s => ∃ v11, v11 = x9 ∧ C58_0 s j0 a0 j0_4 j0_5 j0_6 ∧ C58_1 s j0_4 a0 ∧ C58_4 s j0_5 a0 ∧ C58_2 s j0_6 a0 ∧ C58_3 s i3_0 v11 ∧ σ.length ≤ i3_0 ∧ eP e 0 j0 ∧ C58_5 e i3_0 v11 ∧ C58_8 e a0 ∧ eL e 19 a0.calls ∧ eI e 20 v4 ∧ j0_5 ≠ i3_0 ∧ Pre σ s) ?_ ?_
   ·refine qo ?_;obtain ⟨y12, h13, h10⟩ := qb h10;refine qk (fun e s => ∃ i5 : Nat, C58_0 s j0 a0 j0_4 j0_5 j0_6 ∧ C58_1 s j0_4 a0 ∧ C58_4 s j0_5 a0 ∧ C58_2 s j0_6 a0 ∧ C58_3 s i3_0 v5 ∧ σ.length ≤ i3_0 ∧ Bx σ s i5 164 (ql.cl y12) ∧ eP e 0 j0 ∧ C58_5 e i3_0 v5 ∧ eP e 5 i5 ∧ C58_8 e a0 ∧ eL e 19 a0.calls ∧ eI e 20 v4 ∧ j0_5 ≠ i3_0 ∧ Pre σ s) ?_ ?_
    ·have R14 := qA (f := ql.cl) (qh h13).2;have q3 := cj5 E18 E20 R14 (qh h13).1 TT;refine w_x q3 ?_;exact qg ⟨s.length, (X0.app _), (X0_4.app _), (X0_5.app _), (X0_6.app _), (X3_0.app _), L3_0, (Bx.new hP _ _), E0, (xv (cj6 E3 E18 E20 R14 (qh h13).1 TT)), (xv q3), E18, E19, E20, N0_5__3_0, (hP.app _)⟩
    rintro e s ⟨i5, X0, X0_4, X0_5, X0_6, X3_0, L3_0, X5, E0, E3, E5, E18, E19, E20, N0_5__3_0, hP⟩
    refine qk (fun e s => ∃ i6 i6_3 : Nat, C58_0 s j0 a0 j0_4 j0_5 j0_6 ∧ C58_1 s j0_4 a0 ∧ C58_4 s j0_5 a0 ∧ C58_2 s j0_6 a0 ∧ C58_3 s i3_0 v5 ∧ σ.length ≤ i3_0 ∧ Bx σ s i5 164 (ql.cl y12) ∧ Bx σ s i6 61 [(.v (.int .i64 y12.node)), (.v (.int .i64 (0 : Int))), (.v (.int .i64 (0 : Int))), (.ow i6_3 (List.map Arg.cl ([] : List Arg)))] ∧ Gx s i6_3 (tkO 68 2 (List.length ([] : List Arg))) ∧ σ.length ≤ i6_3 ∧ eP e 0 j0 ∧ C58_5 e i3_0 v5 ∧ eP e 5 i5 ∧ eP e 6 i6 ∧ C58_8 e a0 ∧ eL e 19 a0.calls ∧ eI e 20 v4 ∧ j0 ≠ i6 ∧ j0_5 ≠ i3_0 ∧ j0_5 ≠ i6_3 ∧ i3_0 ≠ i6_3 ∧ i5 ≠ i6 ∧ Pre σ s) ?_ ?_
    ·refine w_x (cj3 E5 X5.g3 TT) ?_;exact Yp (((Gh.refl _ _).tr Gh.hole).tr (Gh.boxq ((Bx.new hP _ _).app _).get (.cons (.refl _) (.cons (.refl _) (.cons (.refl _) (.cons (Wq.holw (Gx.cast (o' := (tkO 68 2 (List.length ([] : List Arg)))) (Gx.new _ _) rfl).get Nilp.e0) .nil)))))) ⟨_, _, (((X0.app _).app _).ne (Ne.symm (Nat.ne_of_lt X0.lt)) _), (((X0_4.app _).app _).ne (Ne.symm (Nat.ne_of_lt X0_4.lt)) _), (((X0_5.app _).app _).ne (Ne.symm (Nat.ne_of_lt X0_5.lt)) _), (((X0_6.app _).app _).ne (Ne.symm (Nat.ne_of_lt X0_6.lt)) _), (((X3_0.app _).app _).ne (Ne.symm (Nat.ne_of_lt X3_0.lt)) _), L3_0, (((X5.app _).app _).ne (Ne.symm (Nat.ne_of_lt X5.lt)) _), (((Bx.new hP _ _).app _).same _ _), ((Gx.cast (o' := (tkO 68 2 (List.length ([] : List Arg)))) (Gx.new _ _) rfl).ne (Nat.ne_of_lt (Bx.new hP _ _).lt) _), (Pre.le (hP.app _)), E0, (xv (cj4 E3 E5 X5.g3 TT)), E5, (xv (cj3 E5 X5.g3 TT)), E18, E19, E20, (Nat.ne_of_lt X0.lt), N0_5__3_0, (Nat.ne_of_lt (X0_5.app _).lt), (Nat.ne_of_lt (X3_0.app _).lt), (Nat.ne_of_lt X5.lt), (((hP.app _).app _).set (Pre.le hP) _)⟩
    rintro e s ⟨i6, i6_3, X0, X0_4, X0_5, X0_6, X3_0, L3_0, X5, X6, X6_3, L6_3, E0, E3, E5, E6, E18, E19, E20, N0__6, N0_5__3_0, N0_5__6_3, N3_0__6_3, N5__6, hP⟩
    refine qm (qe (w_x (cj3 E5 X5.get TT) ?_));refine qf ?_;obtain ⟨x15, h16, h10⟩ := qb h10;refine qk (fun e s => ∃ v17 v18, (v17, v18) = x15 ∧ C58_0 s j0 a0 j0_4 j0_5 j0_6 ∧ C58_1 s j0_4 a0 ∧ C58_4 s j0_5 a0 ∧ C58_2 s j0_6 a0 ∧ C58_3 s i3_0 v5 ∧ σ.length ≤ i3_0 ∧ C58_6 σ s i6 v17 i6_3 v18 ∧ Gx s i6_3 (tkO 68 2 (List.length v18)) ∧ σ.length ≤ i6_3 ∧ eP e 0 j0 ∧ C58_5 e i3_0 v5 ∧ eP e 6 i6 ∧ C58_8 e a0 ∧ eL e 19 a0.calls ∧ eI e 20 v4 ∧ j0 ≠ i6 ∧ j0_5 ≠ i3_0 ∧ j0_5 ≠ i6_3 ∧ i3_0 ≠ i6_3 ∧ Pre σ s) ?_ ?_
    ·refine qo (qH h16 (fun v e s => ∃ v19 v20 v21, (v19, v20, v21) = v ∧ C58_0 s j0 a0 j0_4 j0_5 j0_6 ∧ C58_1 s j0_4 a0 ∧ C58_4 s j0_5 a0 ∧ C58_2 s j0_6 a0 ∧ C58_3 s i3_0 v5 ∧ σ.length ≤ i3_0 ∧ Bx σ s i5 164 (ql.cl y12) ∧ C58_6 σ s i6 v20 i6_3 v21 ∧ Gx s i6_3 (tkO 68 2 (List.length v21)) ∧ σ.length ≤ i6_3 ∧ eP e 0 j0 ∧ C58_5 e i3_0 v5 ∧ eP e 5 i5 ∧ eP e 6 i6 ∧ C58_8 e a0 ∧ eL e 19 a0.calls ∧ eI e 20 v4 ∧ e 28 = (.sl (Expr.rows y12.args)) ∧ eL e 29 y12.args ∧ eI e 30 v19 ∧ j0 ≠ i6 ∧ j0_5 ≠ i3_0 ∧ j0_5 ≠ i6_3 ∧ i3_0 ≠ i6_3 ∧ i5 ≠ i6 ∧ Pre σ s) ⟨_, WkE.refl _, _, _, _, rfl, X0, X0_4, X0_5, X0_6, X3_0, L3_0, X5, X6, X6_3, L6_3, E0, (xv (cj2 E3 TT)), E5, E6, E18, E19, E20, (xv TT), (xv TT), (xv TT), N0__6, N0_5__3_0, N0_5__6_3, N3_0__6_3, N5__6, hP⟩ ?_)
     rintro v x22 e s hf23 ⟨v19, v20, v21, rfl, X0, X0_4, X0_5, X0_6, X3_0, L3_0, X5, X6, X6_3, L6_3, E0, E3, E5, E6, E18, E19, E20, E28, E29, E30, N0__6, N0_5__3_0, N0_5__6_3, N3_0__6_3, N5__6, hP⟩
     unfold zO at hf23;(try dsimp only at hf23);refine qe (w_x (cj3 E29 E30 TT) ?_);refine qf (qe ?_);rcases qj hf23 with ⟨hb24, hf23⟩ | ⟨hb24, hf23⟩
     ·refine xt hb24 (qn (qf ?_));obtain ⟨x25, h26, hf23⟩ := qb hf23;refine qk (fun e s => ∃ v27 v28, (v27, v28) = x25 ∧ C58_0 s j0 a0 j0_4 j0_5 j0_6 ∧ C58_1 s j0_4 a0 ∧ C58_4 s j0_5 a0 ∧ C58_2 s j0_6 a0 ∧ C58_3 s i3_0 v5 ∧ σ.length ≤ i3_0 ∧ Bx σ s i5 164 (ql.cl y12) ∧ C58_6 σ s i6 v27 i6_3 v28 ∧ Gx s i6_3 (tkO 68 2 (List.length v28)) ∧ σ.length ≤ i6_3 ∧ eP e 0 j0 ∧ C58_5 e i3_0 v5 ∧ eP e 5 i5 ∧ eP e 6 i6 ∧ C58_8 e a0 ∧ eL e 19 a0.calls ∧ eI e 20 v4 ∧ e 28 = (.sl (Expr.rows y12.args)) ∧ eL e 29 y12.args ∧ eI e 30 v19 ∧ j0 ≠ i6 ∧ j0_5 ≠ i3_0 ∧ j0_5 ≠ i6_3 ∧ i3_0 ≠ i6_3 ∧ i5 ≠ i6 ∧ Pre σ s) ?_ ?_
      ·refine qo ?_;obtain ⟨y29, h30, h26⟩ := qb h26;refine qk (fun e s => ∃ i8 : Nat, C58_0 s j0 a0 j0_4 j0_5 j0_6 ∧ C58_1 s j0_4 a0 ∧ C58_4 s j0_5 a0 ∧ C58_2 s j0_6 a0 ∧ C58_3 s i3_0 v5 ∧ σ.length ≤ i3_0 ∧ Bx σ s i5 164 (ql.cl y12) ∧ C58_6 σ s i6 v20 i6_3 v21 ∧ Gx s i6_3 (tkO 68 2 (List.length v21)) ∧ σ.length ≤ i6_3 ∧ Bx σ s i8 39 (Expr.cl y29) ∧ eP e 0 j0 ∧ C58_5 e i3_0 v5 ∧ eP e 5 i5 ∧ eP e 6 i6 ∧ eI e 7 v19 ∧ eP e 8 i8 ∧ C58_8 e a0 ∧ eL e 19 a0.calls ∧ eI e 20 v4 ∧ e 28 = (.sl (Expr.rows y12.args)) ∧ eL e 29 y12.args ∧ eI e 30 v19 ∧ j0 ≠ i6 ∧ j0_5 ≠ i3_0 ∧ j0_5 ≠ i6_3 ∧ i3_0 ≠ i6_3 ∧ i5 ≠ i6 ∧ i6 ≠ i8 ∧ Pre σ s) ?_ ?_
       ·have R31 : (Expr.rows y12.args)[(v19).toNat]? = some (Expr.cl y29) := Expr.rget (qh h30).2;have q4 := cj5 E28 E30 R31 (qh h30).1 TT;refine w_x q4 ?_;exact qg ⟨s.length, (X0.app _), (X0_4.app _), (X0_5.app _), (X0_6.app _), (X3_0.app _), L3_0, (X5.app _), (X6.app _), (X6_3.app _), L6_3, (Bx.new hP _ _), E0, (xv (cj6 E3 E28 E30 R31 (qh h30).1 TT)), E5, E6, (xv q4), (xv q4), E18, E19, E20, E28, E29, E30, N0__6, N0_5__3_0, N0_5__6_3, N3_0__6_3, N5__6, (Nat.ne_of_lt X6.lt), (hP.app _)⟩
       rintro e s ⟨i8, X0, X0_4, X0_5, X0_6, X3_0, L3_0, X5, X6, X6_3, L6_3, X8, E0, E3, E5, E6, E7, E8, E18, E19, E20, E28, E29, E30, N0__6, N0_5__3_0, N0_5__6_3, N3_0__6_3, N5__6, N6__8, hP⟩
       obtain ⟨y32, h33, h26⟩ := qb h26;obtain ⟨y34, h35, h26⟩ := qb h26;obtain ⟨y36, h37, h26⟩ := qb h26;have R39 : (List.map C_s y12.ways)[(v19).toNat]? = some [(.v (.string y32))] := qA (qh h33).2;have hv40 : (List.map Arg.cl v21) ++ ([(Arg.cl y34)] : List (List PV)) = (List.map Arg.cl y36) := by rw [← (qO h37).2, List.map_append]; rfl
       have hb41 : ((List.map Arg.cl v21).length + ([(Arg.cl y34)] : List (List PV)).length) * 32 ≤ 140737488355328 ∧ (List.map Arg.cl v21).length + ([(Arg.cl y34)] : List (List PV)).length ≤ 140737488355328 := by simpa [Expr.rlen] using (qO h37).1
       have ha42 := qqa (i := i6_3) (s := s) (n := List.length v21) (k := List.length y36) (x := (.sl [[(.v (.int .i64 y34.src)), (.sl (List.map Op.cl y34.ops))]])) (rows := (List.map Arg.cl v21)) (ns := ([[(.v (.int .i64 y34.src)), (.sl (List.map Op.cl y34.ops))]] : List (List PV))) (vr := (List.map Arg.cl y36)) T_59 T_68 X6_3.get (by simp [Expr.rlen]) (zt (f := Arg.cl) (n := 2) (fun _ => rfl) _) (JK rfl) (by simp) (by decide) hb41 hv40 (by simp [Expr.rlen]) rfl;have ha42b := qqa (i := i6_3) (s := s) (n := List.length v21) (k := List.length y36) (x := (.sl [(Arg.cl y34)])) (rows := (List.map Arg.cl v21)) (ns := ([(Arg.cl y34)] : List (List PV))) (vr := (List.map Arg.cl y36)) T_59 T_68 X6_3.get (by simp [Expr.rlen]) (zt (f := Arg.cl) (n := 2) (fun _ => rfl) _) (JK rfl) (by simp) (by decide) hb41 hv40 (by simp [Expr.rlen]) rfl;have q5 := Gx.ap X6_3 X0;have q6 := Gx.ap X6_3 X0_4;have q7 := Gx.ap X6_3 X0_6;have q8 := Gx.ap X6.gx X0_5;have q9 := Gx.ap X6_3 X8.gx;have q10 := Gx.ap X6.gx X6_3;have q11 := Gx.ap X6.gx X0_6;have q12 := Gx.ap X6.gx X0_4;have q13 := Gx.ap X6_3 X6.gx;have q14 := Gx.ap X6_3 X5.gx;have q15 := Gx.same X6_3 (tkO 68 2 (List.length y36));have q16 := X0.ne q5 (some (tkO 68 2 (List.length y36)));have q17 := X8.ne q9 (some (tkO 68 2 (List.length y36)));have q18 := X5.ne q14 (some (tkO 68 2 (List.length y36)));have q19 := X6.ne q13 (some (tkO 68 2 (List.length y36)));have q20 := X0_4.ne q6 (some (tkO 68 2 (List.length y36)));have q21 := X0_6.ne q7 (some (tkO 68 2 (List.length y36)));have q22 := X0_5.ne (Ne.symm N0_5__6_3) (some (tkO 68 2 (List.length y36)));have q23 := QJ (qh h33).1 ha42 ha42b q16.get q20.get q22.get q21.get q18.get q19.get q15.get q17.get (q16.ne (Ne.symm N0__6) (some (AObj.box 61 [(.v (.int .i64 v20.node)), (.v (.int .i64 v20.clock.period)), (.v (.int .i64 v20.clock.phase)), (.ow i6_3 (List.map Arg.cl y36))]))).get (q20.ne q12 (some (AObj.box 61 [(.v (.int .i64 v20.node)), (.v (.int .i64 v20.clock.period)), (.v (.int .i64 v20.clock.phase)), (.ow i6_3 (List.map Arg.cl y36))]))).get (q22.ne q8 (some (AObj.box 61 [(.v (.int .i64 v20.node)), (.v (.int .i64 v20.clock.period)), (.v (.int .i64 v20.clock.phase)), (.ow i6_3 (List.map Arg.cl y36))]))).get (q21.ne q11 (some (AObj.box 61 [(.v (.int .i64 v20.node)), (.v (.int .i64 v20.clock.period)), (.v (.int .i64 v20.clock.phase)), (.ow i6_3 (List.map Arg.cl y36))]))).get (q18.ne (Ne.symm N5__6) (some (AObj.box 61 [(.v (.int .i64 v20.node)), (.v (.int .i64 v20.clock.period)), (.v (.int .i64 v20.clock.phase)), (.ow i6_3 (List.map Arg.cl y36))]))).get (q19.same 61 [(.v (.int .i64 v20.node)), (.v (.int .i64 v20.clock.period)), (.v (.int .i64 v20.clock.phase)), (.ow i6_3 (List.map Arg.cl y36))]).get (q15.ne q10 (some (AObj.box 61 [(.v (.int .i64 v20.node)), (.v (.int .i64 v20.clock.period)), (.v (.int .i64 v20.clock.phase)), (.ow i6_3 (List.map Arg.cl y36))]))).get (q17.ne N6__8 (some (AObj.box 61 [(.v (.int .i64 v20.node)), (.v (.int .i64 v20.clock.period)), (.v (.int .i64 v20.clock.phase)), (.ow i6_3 (List.map Arg.cl y36))]))).get TT;have q24 := cj15 E0 E5 E6 E7 E8 X0.get X0_4.get X0_5.get X0_6.get X5.get X6.get X6_3.get X8.get R39 q23;refine zh 11 0 q24 ?_;refine S0 _ _ _ _ h35 _ _ _ _ _ _ X0 X0_4 X0_5 X0_6 ?_;refine Ql q24 ?_ ;refine qY q24 ?_;refine qP ?_;obtain rfl := qa h26;exact qg ⟨_, _, rfl, (q16.ne (Ne.symm N0__6) _), (q20.ne q12 _), (q22.ne q8 _), (q21.ne q11 _), ((X3_0.ne (Ne.symm N3_0__6_3) _).ne (Gx.ap X6.gx X3_0) _), L3_0, (q18.ne (Ne.symm N5__6) _), (q19.same _ _), (q15.ne q10 _), L6_3, E0, (xv (cj16 E3 E0 E5 E6 E7 E8 X0.get X0_4.get X0_5.get X0_6.get X5.get X6.get X6_3.get X8.get R39 q23)), E5, E6, E18, E19, E20, E28, E29, E30, N0__6, N0_5__3_0, N0_5__6_3, N3_0__6_3, N5__6, ((hP.set L6_3 (some (tkO 68 2 (List.length y36)))).set q19.le (some (AObj.box 61 [(.v (.int .i64 v20.node)), (.v (.int .i64 v20.clock.period)), (.v (.int .i64 v20.clock.phase)), (.ow i6_3 (List.map Arg.cl y36))])))⟩
      rintro e s ⟨v27, v28, rfl, X0, X0_4, X0_5, X0_6, X3_0, L3_0, X5, X6, X6_3, L6_3, E0, E3, E5, E6, E18, E19, E20, E28, E29, E30, N0__6, N0_5__3_0, N0_5__6_3, N3_0__6_3, N5__6, hP⟩
      (try dsimp only at hf23);refine w_x (cj2 E30 TT) ?_;obtain rfl := qa hf23;exact qT rfl ⟨_, _, _, rfl, X0, X0_4, X0_5, X0_6, X3_0, L3_0, X5, X6, X6_3, L6_3, E0, (xv (cj3 E3 E30 TT)), E5, E6, E18, E19, E20, E28, E29, (xv (cj2 E30 TT)), N0__6, N0_5__3_0, N0_5__6_3, N3_0__6_3, N5__6, hP⟩
     ·refine xf hb24 (qE (qM ?_));obtain rfl := qa hf23;refine qS rfl fun hr43 => ?_;obtain rfl := hr43;exact qK (qg ⟨_, _, rfl, X0, X0_4, X0_5, X0_6, X3_0, L3_0, X6, X6_3, L6_3, E0, (xv (cj2 E3 TT)), E6, E18, E19, E20, N0__6, N0_5__3_0, N0_5__6_3, N3_0__6_3, hP⟩)
    rintro e s ⟨v17, v18, rfl, X0, X0_4, X0_5, X0_6, X3_0, L3_0, X6, X6_3, L6_3, E0, E3, E6, E18, E19, E20, N0__6, N0_5__3_0, N0_5__6_3, N3_0__6_3, hP⟩
    (try dsimp only at h10);obtain ⟨y44, h45, h10⟩ := qb h10;have hv47 : (List.map Task.cl v5) ++ ([[(.v (.int .i64 v17.node)), (.v (.int .i64 v17.clock.period)), (.v (.int .i64 v17.clock.phase)), (.sl (List.map Arg.cl v18))]] : List (List PV)) = (List.map Task.cl y44) := by rw [← (qO h45).2, List.map_append]; rfl
    have hb48 : ((List.map Task.cl v5).length + ([[(.v (.int .i64 v17.node)), (.v (.int .i64 v17.clock.period)), (.v (.int .i64 v17.clock.phase)), (.ow i6_3 (List.map Arg.cl v18))]] : List (List PV)).length) * 48 ≤ 140737488355328 ∧ (List.map Task.cl v5).length + ([[(.v (.int .i64 v17.node)), (.v (.int .i64 v17.clock.period)), (.v (.int .i64 v17.clock.phase)), (.ow i6_3 (List.map Arg.cl v18))]] : List (List PV)).length ≤ 140737488355328 := by simpa [Expr.rlen] using (qO h45).1
    have ha49 := vc_app (i := i3_0) (s := s) (n := List.length v5) (k := List.length y44) (x := (.sl [[(.v (.int .i64 v17.node)), (.v (.int .i64 v17.clock.period)), (.v (.int .i64 v17.clock.phase)), (.ow i6_3 (List.map Arg.cl v18))]])) (rows := (List.map Task.cl v5)) (ns := ([[(.v (.int .i64 v17.node)), (.v (.int .i64 v17.clock.period)), (.v (.int .i64 v17.clock.phase)), (.ow i6_3 (List.map Arg.cl v18))]] : List (List PV))) (vr := ((List.map Task.cl v5) ++ ([[(.v (.int .i64 v17.node)), (.v (.int .i64 v17.clock.period)), (.v (.int .i64 v17.clock.phase)), (.ow i6_3 (List.map Arg.cl v18))]] : List (List PV)))) T_46 T_61 X3_0.get (by simp [Expr.rlen]) (JK rfl) (by simp) (by decide) (by simpa using hb48) rfl (by rw [← (qO h45).2]; simp [Expr.rlen]) rfl;have q25 := X6_3.ne N3_0__6_3 (some (vcO 61 4 ((List.map Task.cl v5) ++ ([[(.v (.int .i64 v17.node)), (.v (.int .i64 v17.clock.period)), (.v (.int .i64 v17.clock.phase)), (.ow i6_3 (List.map Arg.cl v18))]] : List (List PV)))));have q26 := X6.ne (Gx.ap X3_0 X6.gx) (some (vcO 61 4 ((List.map Task.cl v5) ++ ([[(.v (.int .i64 v17.node)), (.v (.int .i64 v17.clock.period)), (.v (.int .i64 v17.clock.phase)), (.ow i6_3 (List.map Arg.cl v18))]] : List (List PV)))));have q27 := cj8 E3 E6 X6.get X6_3.get ha49 q26.get q25.get TT;refine w_x q27 ?_;refine qP ?_;obtain rfl := qa h10;exact Yp ((Gh.refl _ _).tr (Gh.vecw (Gx.same X3_0 _).get (.cons (.refl _) (.cons (.refl _) (.cons (.refl _) (.cons Wk.owr .nil)))) hv47)) ⟨_, rfl, ((X0.ne (Gx.ap X3_0 X0) _).ne (Gx.ap X3_0 X0) _), ((X0_4.ne (Gx.ap X3_0 X0_4) _).ne (Gx.ap X3_0 X0_4) _), ((X0_5.ne (Ne.symm N0_5__3_0) _).ne (Ne.symm N0_5__3_0) _), ((X0_6.ne (Gx.ap X3_0 X0_6) _).ne (Gx.ap X3_0 X0_6) _), (Gx.same (Gx.same X3_0 _) _), L3_0, E0, (xv q27), E18, E19, E20, N0_5__3_0, ((hP.set L3_0 _).set L3_0 _)⟩
   rintro e s ⟨v11, rfl, X0, X0_4, X0_5, X0_6, X3_0, L3_0, E0, E3, E18, E19, E20, N0_5__3_0, hP⟩
   (try dsimp only at hf7);refine w_x (cj2 E20 TT) ?_;obtain rfl := qa hf7;exact qT rfl ⟨_, _, rfl, X0, X0_4, X0_5, X0_6, X3_0, L3_0, E0, (xv (cj3 E3 E20 TT)), E18, E19, (xv (cj2 E20 TT)), N0_5__3_0, hP⟩
  ·refine xf hb8 (qE (qM ?_));obtain rfl := qa hf7;refine qS rfl fun hr50 => ?_;obtain rfl := hr50;exact qK (qg ⟨_, rfl, X0, X0_4, X0_5, X0_6, X3_0, L3_0, E0, (xv (cj2 E3 TT)), N0_5__3_0, hP⟩)
 rintro e s ⟨v3, rfl, X0, X0_4, X0_5, X0_6, X3_0, L3_0, E0, E3, N0_5__3_0, hP⟩
 (try dsimp only at h);refine qm (qe ?_);have R51 := vc_len (rows := (List.map Task.cl v3)) (n := List.length v3) T_46 X3_0.get (by simp [Expr.rlen]);simp only [lenX, T_46] at R51;refine w_x (cj3 E3 R51 TT) ?_;refine qf ?_;obtain ⟨x52, h53, h⟩ := qb h;refine qk (fun e s => ∃ v54, v54 = x52 ∧ C58_3 s i3_0 v54 ∧ σ.length ≤ i3_0 ∧ C58_5 e i3_0 v54 ∧ Pre σ s) ?_ ?_
 ·refine qo (qH h53 (fun v e s => ∃ v55 v56, (v55, v56) = v ∧ C58_0 s j0 a0 j0_4 j0_5 j0_6 ∧ C58_1 s j0_4 a0 ∧ C58_4 s j0_5 a0 ∧ C58_2 s j0_6 a0 ∧ C58_3 s i3_0 v56 ∧ σ.length ≤ i3_0 ∧ eP e 0 j0 ∧ C58_5 e i3_0 v56 ∧ eL e 55 v3 ∧ eI e 56 v55 ∧ j0_5 ≠ i3_0 ∧ Pre σ s) ⟨_, WkE.refl _, _, _, rfl, X0, X0_4, X0_5, X0_6, X3_0, L3_0, E0, (xv (cj2 E3 TT)), (xv TT), (xv TT), N0_5__3_0, hP⟩ ?_)
  rintro v x57 e s hf58 ⟨v55, v56, rfl, X0, X0_4, X0_5, X0_6, X3_0, L3_0, E0, E3, E55, E56, N0_5__3_0, hP⟩
  unfold zN at hf58;(try dsimp only at hf58);refine qe (w_x (cj3 E55 E56 TT) ?_);refine qf (qe ?_);rcases qj hf58 with ⟨hb59, hf58⟩ | ⟨hb59, hf58⟩
  ·refine xt hb59 (qn (qf ?_));obtain ⟨x60, h61, hf58⟩ := qb hf58;refine qk (fun e s => ∃ v62, v62 = x60 ∧ C58_0 s j0 a0 j0_4 j0_5 j0_6 ∧ C58_1 s j0_4 a0 ∧ C58_4 s j0_5 a0 ∧ C58_2 s j0_6 a0 ∧ C58_3 s i3_0 v62 ∧ σ.length ≤ i3_0 ∧ eP e 0 j0 ∧ C58_5 e i3_0 v62 ∧ eL e 55 v3 ∧ eI e 56 v55 ∧ j0_5 ≠ i3_0 ∧ Pre σ s) ?_ ?_
   ·refine qo (qe ?_);have R63 := vc_len (rows := (List.map Task.cl v56)) (n := List.length v56) T_46 X3_0.get (by simp [Expr.rlen]);simp only [lenX, T_46] at R63;refine w_x (cj3 E3 R63 TT) ?_;refine qf ?_;obtain ⟨x64, h65, h61⟩ := qb h61;refine Qd (fun e s => ∃ v66, v66 = x64 ∧ C58_0 s j0 a0 j0_4 j0_5 j0_6 ∧ C58_1 s j0_4 a0 ∧ C58_4 s j0_5 a0 ∧ C58_2 s j0_6 a0 ∧ C58_3 s i3_0 v66 ∧ σ.length ≤ i3_0 ∧ eP e 0 j0 ∧ C58_5 e i3_0 v66 ∧ eL e 55 v3 ∧ eI e 56 v55 ∧ j0_5 ≠ i3_0 ∧ Pre σ s) ?_ ?_
    ·refine qo (qH h65 (fun v e s => ∃ v67 v68, (v67, v68) = v ∧ C58_0 s j0 a0 j0_4 j0_5 j0_6 ∧ C58_1 s j0_4 a0 ∧ C58_4 s j0_5 a0 ∧ C58_2 s j0_6 a0 ∧ C58_3 s i3_0 v68 ∧ σ.length ≤ i3_0 ∧ eP e 0 j0 ∧ C58_5 e i3_0 v68 ∧ eL e 55 v3 ∧ eI e 56 v55 ∧ C58_7 e i3_0 v68 ∧ eL e 59 v56 ∧ eI e 60 v67 ∧ j0_5 ≠ i3_0 ∧ Pre σ s) ⟨_, WkE.refl _, _, _, rfl, X0, X0_4, X0_5, X0_6, X3_0, L3_0, E0, (xv (cj2 E3 TT)), E55, E56, (xv TT), (xv TT), (xv TT), N0_5__3_0, hP⟩ ?_)
     rintro v x69 e s hf70 ⟨v67, v68, rfl, X0, X0_4, X0_5, X0_6, X3_0, L3_0, E0, E3, E55, E56, E58, E59, E60, N0_5__3_0, hP⟩
     unfold zM at hf70;(try dsimp only at hf70);refine qe (w_x (cj3 E59 E60 TT) ?_);refine qf (qe ?_);rcases qj hf70 with ⟨hb71, hf70⟩ | ⟨hb71, hf70⟩
     ·refine xt hb71 (qn (qf ?_));obtain ⟨x72, h73, hf70⟩ := qb hf70;refine qk (fun e s => ∃ v74, v74 = x72 ∧ C58_0 s j0 a0 j0_4 j0_5 j0_6 ∧ C58_1 s j0_4 a0 ∧ C58_4 s j0_5 a0 ∧ C58_2 s j0_6 a0 ∧ C58_3 s i3_0 v74 ∧ σ.length ≤ i3_0 ∧ eP e 0 j0 ∧ C58_5 e i3_0 v74 ∧ eL e 55 v3 ∧ eI e 56 v55 ∧ C58_7 e i3_0 v74 ∧ eL e 59 v56 ∧ eI e 60 v67 ∧ j0_5 ≠ i3_0 ∧ Pre σ s) ?_ ?_
      ·refine qo ?_;obtain ⟨y75, h76, h73⟩ := qb h73;refine qk (fun e s => ∃ i10 : Nat, C58_0 s j0 a0 j0_4 j0_5 j0_6 ∧ C58_1 s j0_4 a0 ∧ C58_4 s j0_5 a0 ∧ C58_2 s j0_6 a0 ∧ Bx σ s i10 61 (Task.cl y75) ∧ C58_3 s i3_0 v68 ∧ σ.length ≤ i3_0 ∧ eP e 0 j0 ∧ C58_5 e i3_0 v68 ∧ eI e 9 v67 ∧ eP e 10 i10 ∧ eL e 55 v3 ∧ eI e 56 v55 ∧ C58_7 e i3_0 v68 ∧ eL e 59 v56 ∧ eI e 60 v67 ∧ j0_5 ≠ i3_0 ∧ Pre σ s) ?_ ?_
       ·have R77 : ((List.map Task.cl v68) : List (List PV))[(v67).toNat]? = some (Task.cl y75) := qA (qh h76).2;have gv78 := vc_get (n := List.length v68) X3_0.get R77 (by simp [Expr.rlen]);have f79 : v67.toNat * 4 + 4 ≤ (List.flatten (List.map Task.cl v68)).length ∧ List.take 4 (List.drop (v67.toNat * 4) (List.flatten (List.map Task.cl v68))) = (Task.cl y75) := (vc_row (zt (f := Task.cl) (n := 4) (fun _ => rfl) _) R77).2 0 4 (by decide);have q28 := cj7 E58 E60 gv78 (qh h76).1 (Ja h76) f79 TT;refine w_x q28 ?_;exact qg ⟨s.length, (X0.app _), (X0_4.app _), (X0_5.app _), (X0_6.app _), (Bx.new hP _ _), (X3_0.app _), L3_0, E0, (xv (cj8 E3 E58 E60 gv78 (qh h76).1 (Ja h76) f79 TT)), (xv q28), (xv q28), E55, E56, (xv (cj8 E58 E58 E60 gv78 (qh h76).1 (Ja h76) f79 TT)), E59, E60, N0_5__3_0, (hP.app _)⟩
       rintro e s ⟨i10, X0, X0_4, X0_5, X0_6, X10, X3_0, L3_0, E0, E3, E9, E10, E55, E56, E58, E59, E60, N0_5__3_0, hP⟩
       refine qe (w_x (cj3 E10 X10.get TT) ?_);refine qf ?_;obtain ⟨x80, h81, h73⟩ := qb h73;refine Qd (fun e s => ∃ v82, v82 = x80 ∧ C58_0 s j0 a0 j0_4 j0_5 j0_6 ∧ C58_1 s j0_4 a0 ∧ C58_4 s j0_5 a0 ∧ C58_2 s j0_6 a0 ∧ C58_3 s i3_0 v82 ∧ σ.length ≤ i3_0 ∧ eP e 0 j0 ∧ C58_5 e i3_0 v82 ∧ eL e 55 v3 ∧ eI e 56 v55 ∧ C58_7 e i3_0 v82 ∧ eL e 59 v56 ∧ eI e 60 v67 ∧ j0_5 ≠ i3_0 ∧ Pre σ s) ?_ ?_
       ·refine qo (qH h81 (fun v e s => ∃ v83 v84, (v83, v84) = v ∧ C58_0 s j0 a0 j0_4 j0_5 j0_6 ∧ C58_1 s j0_4 a0 ∧ C58_4 s j0_5 a0 ∧ C58_2 s j0_6 a0 ∧ C58_3 s i3_0 v84 ∧ σ.length ≤ i3_0 ∧ eP e 0 j0 ∧ C58_5 e i3_0 v84 ∧ eI e 9 v67 ∧ eL e 55 v3 ∧ eI e 56 v55 ∧ C58_7 e i3_0 v84 ∧ eL e 59 v56 ∧ eI e 60 v67 ∧ eS e 66 Arg.cl y75.args ∧ eL e 67 y75.args ∧ eI e 68 v83 ∧ j0_5 ≠ i3_0 ∧ Pre σ s) ⟨_, WkE.refl _, _, _, rfl, X0, X0_4, X0_5, X0_6, X3_0, L3_0, E0, (xv (cj2 E3 TT)), E9, E55, E56, (xv (cj2 E58 TT)), E59, E60, (xv TT), (xv TT), (xv TT), N0_5__3_0, hP⟩ ?_)
        rintro v x85 e s hf86 ⟨v83, v84, rfl, X0, X0_4, X0_5, X0_6, X3_0, L3_0, E0, E3, E9, E55, E56, E58, E59, E60, E66, E67, E68, N0_5__3_0, hP⟩
        unfold zL at hf86;(try dsimp only at hf86);refine qe (w_x (cj3 E67 E68 TT) ?_);refine qf (qe ?_);rcases qj hf86 with ⟨hb87, hf86⟩ | ⟨hb87, hf86⟩
        ·refine xt hb87 (qn (qf ?_));obtain ⟨x88, h89, hf86⟩ := qb hf86;refine qk (fun e s => ∃ v90, v90 = x88 ∧ C58_0 s j0 a0 j0_4 j0_5 j0_6 ∧ C58_1 s j0_4 a0 ∧ C58_4 s j0_5 a0 ∧ C58_2 s j0_6 a0 ∧ C58_3 s i3_0 v90 ∧ σ.length ≤ i3_0 ∧ eP e 0 j0 ∧ C58_5 e i3_0 v90 ∧ eI e 9 v67 ∧ eL e 55 v3 ∧ eI e 56 v55 ∧ C58_7 e i3_0 v90 ∧ eL e 59 v56 ∧ eI e 60 v67 ∧ eS e 66 Arg.cl y75.args ∧ eL e 67 y75.args ∧ eI e 68 v83 ∧ j0_5 ≠ i3_0 ∧ Pre σ s) ?_ ?_
         ·refine qo ?_;obtain ⟨y91, h92, h89⟩ := qb h89;refine qk (fun e s => ∃ i12 : Nat, C58_0 s j0 a0 j0_4 j0_5 j0_6 ∧ C58_1 s j0_4 a0 ∧ C58_4 s j0_5 a0 ∧ C58_2 s j0_6 a0 ∧ Bx σ s i12 68 (Arg.cl y91) ∧ C58_3 s i3_0 v84 ∧ σ.length ≤ i3_0 ∧ eP e 0 j0 ∧ C58_5 e i3_0 v84 ∧ eI e 9 v67 ∧ eP e 12 i12 ∧ eL e 55 v3 ∧ eI e 56 v55 ∧ C58_7 e i3_0 v84 ∧ eL e 59 v56 ∧ eI e 60 v67 ∧ eS e 66 Arg.cl y75.args ∧ eL e 67 y75.args ∧ eI e 68 v83 ∧ j0_5 ≠ i3_0 ∧ Pre σ s) ?_ ?_
          ·have R93 := qA (f := Arg.cl) (qh h92).2;have q29 := cj5 E66 E68 R93 (qh h92).1 TT;refine w_x q29 ?_;exact qg ⟨s.length, (X0.app _), (X0_4.app _), (X0_5.app _), (X0_6.app _), (Bx.new hP _ _), (X3_0.app _), L3_0, E0, (xv (cj6 E3 E66 E68 R93 (qh h92).1 TT)), E9, (xv q29), E55, E56, (xv (cj6 E58 E66 E68 R93 (qh h92).1 TT)), E59, E60, E66, E67, E68, N0_5__3_0, (hP.app _)⟩
          rintro e s ⟨i12, X0, X0_4, X0_5, X0_6, X12, X3_0, L3_0, E0, E3, E9, E12, E55, E56, E58, E59, E60, E66, E67, E68, N0_5__3_0, hP⟩
          obtain ⟨y94, h95, h89⟩ := qb h89;refine qk (fun e s => ∃ i13 : Nat, C58_0 s j0 a0 j0_4 j0_5 j0_6 ∧ C58_1 s j0_4 a0 ∧ C58_4 s j0_5 a0 ∧ C58_2 s j0_6 a0 ∧ Bx σ s i13 43 (Clock.cl y94.1) ∧ C58_3 s i3_0 v84 ∧ σ.length ≤ i3_0 ∧ eP e 0 j0 ∧ C58_5 e i3_0 v84 ∧ eI e 9 v67 ∧ eP e 13 i13 ∧ eB e 14 y94.2 ∧ eL e 55 v3 ∧ eI e 56 v55 ∧ C58_7 e i3_0 v84 ∧ eL e 59 v56 ∧ eI e 60 v67 ∧ eS e 66 Arg.cl y75.args ∧ eL e 67 y75.args ∧ eI e 68 v83 ∧ j0_5 ≠ i3_0 ∧ Pre σ s) ?_ ?_
          ·have q30 := cj9 E0 E3 E12 X0.g3 X0_4.g3 X0_5.g3 X0_6.g3 X12.g3 TT;refine w_x q30 ?_;refine S1 _ _ _ _ h95 _ _ _ _ _ _ _ X0 X0_4 X0_5 X0_6 X3_0 ?_;refine w_y q30 ?_;exact qg ⟨s.length, (X0.app _), (X0_4.app _), (X0_5.app _), (X0_6.app _), (Bx.new hP _ _), (X3_0.app _), L3_0, E0, (xv (Qy E3 E0 E3 E12 X0.g3 X0_4.g3 X0_5.g3 X0_6.g3 X12.g3 TT)), E9, (xv q30), (xv q30), E55, E56, (xv (Qy E58 E0 E3 E12 X0.g3 X0_4.g3 X0_5.g3 X0_6.g3 X12.g3 TT)), E59, E60, E66, E67, E68, N0_5__3_0, (hP.app _)⟩
          rintro e s ⟨i13, X0, X0_4, X0_5, X0_6, X13, X3_0, L3_0, E0, E3, E9, E13, E14, E55, E56, E58, E59, E60, E66, E67, E68, N0_5__3_0, hP⟩
          obtain ⟨w98, h99, h89⟩ := qb h89;refine qk (fun e s => C58_0 s j0 a0 j0_4 j0_5 j0_6 ∧ C58_1 s j0_4 a0 ∧ C58_4 s j0_5 a0 ∧ C58_2 s j0_6 a0 ∧ Bx σ s i13 43 (Clock.cl y94.1) ∧ C58_3 s i3_0 v84 ∧ σ.length ≤ i3_0 ∧ eP e 0 j0 ∧ C58_5 e i3_0 v84 ∧ eI e 9 v67 ∧ eP e 13 i13 ∧ eL e 55 v3 ∧ eI e 56 v55 ∧ C58_7 e i3_0 v84 ∧ eL e 59 v56 ∧ eI e 60 v67 ∧ eS e 66 Arg.cl y75.args ∧ eL e 67 y75.args ∧ eI e 68 v83 ∧ eB e 88 (y94.2 && w98) ∧ j0_5 ≠ i3_0 ∧ Pre σ s) ?_ ?_
          ·cases hb100 : y94.2
           ·replace h99 := qU (by simp only [hb100, Bool.or_true, Bool.true_or, Bool.or_false, Bool.false_or, Bool.and_true, Bool.true_and, Bool.and_false, Bool.false_and, Bool.not_true, Bool.not_false, cond_true, cond_false]) h99;obtain rfl := qa h99;refine w_x (cj5 E3 E9 E14 hb100 TT) ?_;exact qg ⟨X0, X0_4, X0_5, X0_6, X13, X3_0, L3_0, E0, (xv (cj6 E3 E3 E9 E14 hb100 TT)), E9, E13, E55, E56, (xv (cj6 E58 E3 E9 E14 hb100 TT)), E59, E60, E66, E67, E68, (xv (cj5 E3 E9 E14 hb100 TT)), N0_5__3_0, hP⟩
           ·replace h99 := qN (by simp only [hb100, Bool.or_true, Bool.true_or, Bool.or_false, Bool.false_or, Bool.and_true, Bool.true_and, Bool.and_false, Bool.false_and, Bool.not_true, Bool.not_false, cond_true, cond_false]) h99;obtain ⟨y96, h97, h99⟩ := qb h99;obtain rfl := qa h99;have R101 : ((List.map Task.cl v84) : List (List PV))[(v67).toNat]? = some (Task.cl y96) := qA (qh h97).2;have gv102 := vc_get (n := List.length v84) X3_0.get R101 (by simp [Expr.rlen]);have f103 : (List.flatten (List.map Task.cl v84))[v67.toNat * 4 + 1]? = some (.v (.int .i64 y96.clock.period)) := (vc_row (zt (f := Task.cl) (n := 4) (fun _ => rfl) _) R101).1 1 _ rfl;have q31 := cj9 E3 E9 E14 hb100 gv102 (qh h97).1 (Ja h97) f103 TT;refine w_x q31 ?_;exact qg ⟨X0, X0_4, X0_5, X0_6, X13, X3_0, L3_0, E0, (xv (Qy E3 E3 E9 E14 hb100 gv102 (qh h97).1 (Ja h97) f103 TT)), E9, E13, E55, E56, (xv (Qy E58 E3 E9 E14 hb100 gv102 (qh h97).1 (Ja h97) f103 TT)), E59, E60, E66, E67, E68, (xv q31), N0_5__3_0, hP⟩
          rintro e s ⟨X0, X0_4, X0_5, X0_6, X13, X3_0, L3_0, E0, E3, E9, E13, E55, E56, E58, E59, E60, E66, E67, E68, E88, N0_5__3_0, hP⟩
          obtain ⟨x104, h105, h89⟩ := qb h89;refine Qd (fun e s => ∃ v106, v106 = x104 ∧ C58_0 s j0 a0 j0_4 j0_5 j0_6 ∧ C58_1 s j0_4 a0 ∧ C58_4 s j0_5 a0 ∧ C58_2 s j0_6 a0 ∧ C58_3 s i3_0 v106 ∧ σ.length ≤ i3_0 ∧ eP e 0 j0 ∧ C58_5 e i3_0 v106 ∧ eI e 9 v67 ∧ eL e 55 v3 ∧ eI e 56 v55 ∧ C58_7 e i3_0 v106 ∧ eL e 59 v56 ∧ eI e 60 v67 ∧ eS e 66 Arg.cl y75.args ∧ eL e 67 y75.args ∧ eI e 68 v83 ∧ j0_5 ≠ i3_0 ∧ Pre σ s) ?_ ?_
          ·rcases qj h105 with ⟨hb107, h105⟩ | ⟨hb107, h105⟩
           ·refine xt (cj2 E88 hb107) ?_;obtain ⟨y108, h109, h105⟩ := qb h105;obtain ⟨y110, h111, h105⟩ := qb h105;have R112 : ((List.map Task.cl v84) : List (List PV))[(v67).toNat]? = some (Task.cl y108) := qA (qh h109).2;have gv113 := vc_get (n := List.length v84) X3_0.get R112 (by simp [Expr.rlen]);have f114 : List.take (v67.toNat * 4 + 1) (List.flatten (List.map Task.cl v84)) ++ [(.v (.int .i64 y94.1.period)), (.v (.int .i64 y94.1.phase))] ++ List.drop (v67.toNat * 4 + 1 + 2) (List.flatten (List.map Task.cl v84)) = List.flatten (List.map Task.cl y110) := vc_put (off := 1) (k := 2) (zt (f := Task.cl) (n := 4) (fun _ => rfl) _) R112 rfl (by decide) (by rw [← (Jh h111).2.2, List.map_set]; rfl);have f114b : List.take (v67.toNat * 4 + 1) (List.flatten (List.map Task.cl v84)) ++ (Clock.cl y94.1) ++ List.drop (v67.toNat * 4 + 1 + 2) (List.flatten (List.map Task.cl v84)) = List.flatten (List.map Task.cl y110) := f114;have f115 : List.length v84 = List.length y110 := by rw [← (Jh h111).2.2]; simp
            have f116 := vc_vec (rows := (List.map Task.cl y110)) (n := List.length y110) (sz := 4) (by intro h0; have := (Jh h111).2.1; have h1 := congrArg List.length h0; simp at h1; simp_all) (by simp) 61;have q32 := Gx.ap X3_0 X13.gx;have q33 := X13.ne q32 (some (vcO 61 4 (List.map Task.cl y110)));refine w_x (cj16 E3 E9 E13 X13.get gv113 (qh h109).1 (Ja h109) f114b f114 f115 f116 (setO_lt h111) (Jh h111).1 (QQe (sz := 4) (rows := (List.map Task.cl v84)) (o := 1) (k := 2) (zt (f := Task.cl) (n := 4) (fun _ => rfl) _) R112 (by decide)) q33.get TT) ?_;obtain rfl := qa h105;exact zr ⟨_, rfl, (X0.ne (Gx.ap X3_0 X0) _), (X0_4.ne (Gx.ap X3_0 X0_4) _), (X0_5.ne (Ne.symm N0_5__3_0) _), (X0_6.ne (Gx.ap X3_0 X0_6) _), (Gx.same X3_0 _), L3_0, E0, (xv (cj17 E3 E3 E9 E13 X13.get gv113 (qh h109).1 (Ja h109) f114b f114 f115 f116 (setO_lt h111) (Jh h111).1 (QQe (sz := 4) (rows := (List.map Task.cl v84)) (o := 1) (k := 2) (zt (f := Task.cl) (n := 4) (fun _ => rfl) _) R112 (by decide)) q33.get TT)), E9, E55, E56, (xv (cj17 E58 E3 E9 E13 X13.get gv113 (qh h109).1 (Ja h109) f114b f114 f115 f116 (setO_lt h111) (Jh h111).1 (QQe (sz := 4) (rows := (List.map Task.cl v84)) (o := 1) (k := 2) (zt (f := Task.cl) (n := 4) (fun _ => rfl) _) R112 (by decide)) q33.get TT)), E59, E60, E66, E67, E68, N0_5__3_0, (hP.set L3_0 _)⟩
           ·refine xf (cj2 E88 hb107) (qn ?_);obtain rfl := qa h105;exact zr ⟨_, rfl, X0, X0_4, X0_5, X0_6, X3_0, L3_0, E0, (xv (cj2 E3 TT)), E9, E55, E56, (xv (cj2 E58 TT)), E59, E60, E66, E67, E68, N0_5__3_0, hP⟩
          rintro e s ⟨v106, rfl, X0, X0_4, X0_5, X0_6, X3_0, L3_0, E0, E3, E9, E55, E56, E58, E59, E60, E66, E67, E68, N0_5__3_0, hP⟩
          (try dsimp only at h89);refine qP ?_;obtain rfl := qa h89;exact qg ⟨_, rfl, X0, X0_4, X0_5, X0_6, X3_0, L3_0, E0, (xv (cj2 E3 TT)), E9, E55, E56, (xv (cj2 E58 TT)), E59, E60, E66, E67, E68, N0_5__3_0, hP⟩
         rintro e s ⟨v90, rfl, X0, X0_4, X0_5, X0_6, X3_0, L3_0, E0, E3, E9, E55, E56, E58, E59, E60, E66, E67, E68, N0_5__3_0, hP⟩
         (try dsimp only at hf86);refine w_x (cj2 E68 TT) ?_;obtain rfl := qa hf86;exact qT rfl ⟨_, _, rfl, X0, X0_4, X0_5, X0_6, X3_0, L3_0, E0, (xv (cj3 E3 E68 TT)), E9, E55, E56, (xv (cj3 E58 E68 TT)), E59, E60, E66, E67, (xv (cj2 E68 TT)), N0_5__3_0, hP⟩
        ·refine xf hb87 (qE (qM ?_));obtain rfl := qa hf86;refine qS rfl fun hr117 => ?_;obtain rfl := hr117;exact qK (zr ⟨_, rfl, X0, X0_4, X0_5, X0_6, X3_0, L3_0, E0, (xv (cj2 E3 TT)), E55, E56, (xv (cj2 E58 TT)), E59, E60, N0_5__3_0, hP⟩)
       rintro e s ⟨v82, rfl, X0, X0_4, X0_5, X0_6, X3_0, L3_0, E0, E3, E55, E56, E58, E59, E60, N0_5__3_0, hP⟩
       (try dsimp only at h73);refine qP ?_;obtain rfl := qa h73;exact qg ⟨_, rfl, X0, X0_4, X0_5, X0_6, X3_0, L3_0, E0, (xv (cj2 E3 TT)), E55, E56, (xv (cj2 E58 TT)), E59, E60, N0_5__3_0, hP⟩
      rintro e s ⟨v74, rfl, X0, X0_4, X0_5, X0_6, X3_0, L3_0, E0, E3, E55, E56, E58, E59, E60, N0_5__3_0, hP⟩
      (try dsimp only at hf70);refine w_x (cj2 E60 TT) ?_;obtain rfl := qa hf70;exact qT rfl ⟨_, _, rfl, X0, X0_4, X0_5, X0_6, X3_0, L3_0, E0, (xv (cj3 E3 E60 TT)), E55, E56, (xv (cj3 E58 E60 TT)), E59, (xv (cj2 E60 TT)), N0_5__3_0, hP⟩
     ·refine xf hb71 (qE (qM ?_));obtain rfl := qa hf70;refine qS rfl fun hr118 => ?_;obtain rfl := hr118;exact qK (zr ⟨_, rfl, X0, X0_4, X0_5, X0_6, X3_0, L3_0, E0, (xv (cj2 E3 TT)), E55, E56, N0_5__3_0, hP⟩)
    rintro e s ⟨v66, rfl, X0, X0_4, X0_5, X0_6, X3_0, L3_0, E0, E3, E55, E56, N0_5__3_0, hP⟩
    (try dsimp only at h61);refine qP ?_;obtain rfl := qa h61;exact qg ⟨_, rfl, X0, X0_4, X0_5, X0_6, X3_0, L3_0, E0, (xv (cj2 E3 TT)), E55, E56, N0_5__3_0, hP⟩
   rintro e s ⟨v62, rfl, X0, X0_4, X0_5, X0_6, X3_0, L3_0, E0, E3, E55, E56, N0_5__3_0, hP⟩
   (try dsimp only at hf58);refine w_x (cj2 E56 TT) ?_;obtain rfl := qa hf58;exact qT rfl ⟨_, _, rfl, X0, X0_4, X0_5, X0_6, X3_0, L3_0, E0, (xv (cj3 E3 E56 TT)), E55, (xv (cj2 E56 TT)), N0_5__3_0, hP⟩
  ·refine xf hb59 (qE (qM ?_));obtain rfl := qa hf58;refine qS rfl fun hr119 => ?_;obtain rfl := hr119;exact qK (qg ⟨_, rfl, X3_0, L3_0, (xv (cj2 E3 TT)), hP⟩)
 rintro e s ⟨v54, rfl, X3_0, L3_0, E3, hP⟩
 (try dsimp only at h);refine qk (fun e s => eS e 2 Task.cl v54 ∧ Pre σ s) ?_ ?_
 ·refine w_x (cj2 E3 TT) ?_;exact Yp ((Gh.refl _ _).tr (Gh.frzv (t := 2) (rows := (List.map Task.cl v54)) (xv (cj2 E3 TT)) X3_0.get (zt (f := Task.cl) (n := 4) (fun _ => rfl) _) (by simp))) ⟨(xv (cj2 E3 TT)), (hP.set L3_0 none)⟩
 rintro e s ⟨E2, hP⟩
 refine qp ?_;obtain rfl := qa h;exact qr (fun _ => rfl) (xr (rs := #[.tmp 2]) (cj2 E2 TT)) hP (.refl _) (Cn.rows Task.cn _) hK
end Go.Proofs.Ytohmmfimedgccaa.E
end
section
namespace Go.Proofs.Ytohmmfimedgccaa.E
set_option linter.unusedVariables false
set_option linter.unusedSimpArgs false
set_option maxRecDepth 10000
theorem spE_size (e : Expr) : ∀ to x, x ∈ spE to e → x.1.size + 2 * za x.2 ≤ to.size + 2 * za e := by
 induction e using Expr.induct with
 | h e ih =>
  intro to x hx;rw [zR] at hx;rcases List.mem_cons.1 hx with rfl | hx
  ·exact Nat.le_refl _
  ·obtain ⟨k, e', s, h1, h2, _⟩ := Jg hx;have hm := List.mem_of_getElem? h1;have h3 := ih e' hm _ _ h2;rw [Yy] at h3;have := Zx hm;rw [zE e];omega
theorem FW.psz {p : Program} {ρ : ByteArray → Clock} (w : FW p ρ) {to : ByteArray} {e : Expr} (h : (to, e) ∈ spP p.flows) : to.size + 2 * za e ≤ 300 := by
 obtain ⟨f, hf, h⟩ := List.mem_flatMap.1 h;have h1 := spE_size _ _ _ h;have h2 := w.fit.flow f hf;have h3 := h2.size;have h4 := h2.name.2;simp only at h1;omega
theorem FW.cat {p : Program} {ρ : ByteArray → Clock} (w : FW p ρ) {k : Nat} {x : ByteArray × Expr} (h : (cls (spP p.flows))[k]? = some x) : (x.1, x.2) ∈ spP p.flows ∧ x.2.kind = 2 := JL.1 (List.mem_of_getElem? h)
theorem dge' (n : Nat) : ¬ (decide ((n : Int) < (n : Int)) = true) := by simp
noncomputable def zzQ := B_flat_maker_tasks JC Yt
theorem s_tasks : Sat_flat_maker_tasks zzQ := W_flat_maker_tasks _ _ s_arg s_clk
theorem t_mkargs {m : qi} {ρ : ByteArray → Clock} (w : FW m.p ρ) (hm : MkOK m) {k : Nat} {x : ByteArray × Expr} (hk : (cls (spP m.p.flows))[k]? = some x) : qz (zO (Qf m.p x) m JC) ((0 : Int), (Task.mk (Qf m.p x).node (Clock.mk (0 : Int) (0 : Int)) ([] : List Arg)), ([] : List Arg)) = some (qX m.p x ⟨0, 0⟩, zF m.p x) := by
 have hbig : (1000000 : Nat) ≤ maxLen := by unfold maxLen; decide
 obtain ⟨hp, _⟩ := w.cat hk;have hsz := w.psz hp;have hpos := QP x.2;have hargs : x.2.args.length ≤ 6 := by
  rcases (w.pfit hp).kinds with ⟨k, ha⟩ | ⟨k, h1, h2⟩ | ⟨h1, h2⟩
  ·rw [ha]; simp
  ·exact h2
  ·omega
 obtain ⟨r, h1, h2⟩ := qL (f := zO (Qf m.p x) m JC) (fun i v => v = ((i : Int), Task.mk (ZC m.p x.2.name) ⟨0, 0⟩ ((zF m.p x).take i), (zF m.p x).take i)) x.2.args.length (fun r : Task × List Arg => r = (qX m.p x ⟨0, 0⟩, zF m.p x)) (fun i v hi hv => by
  subst hv;unfold zO;have hpi := ZQ hp hi;obtain ⟨n, hn, har⟩ := w.argOf hpi;have hv := v_arg w hm har (by omega) (by rw [Yy]; omega);have hw : qB ((List.range x.2.args.length).map (zd x.1)) (i : Int) = some (zd x.1 i) := by
   rw [qy (by simpa using hi)];simp
  have hat := qqA m.p x (List.getElem?_eq_getElem hi);have hal := JZ m.p x;dsimp only;rw [if_pos (show decide ((i : Int) < (((Qf m.p x).args.length : Nat) : Int)) = true from dlt hi)];simp only [Qf, qy hi, Option.bind_some, hw];rw [hv];simp only [Option.bind_some];unfold zP;rw [if_pos (by simp only [List.length_take, List.length_cons, List.length_nil]; omega)];refine .inl ⟨_, rfl, ?_⟩;rw [zc hi (by omega)];have ht : (zF m.p x).take (i + 1) = (zF m.p x).take i ++ [argOf m.p (zd x.1 i) x.2.args[i]] := by
   rw [List.take_add_one, hat];rfl
  rw [ht]) (fun v hv => by
  subst hv;unfold zO;dsimp only;rw [if_neg (show ¬ (decide ((x.2.args.length : Int) < (((Qf m.p x).args.length : Nat) : Int)) = true) from dge' _)];refine ⟨_, rfl, ?_⟩;rw [← JZ m.p x, List.take_length];rfl) (v0 := ((0 : Int), (Task.mk (Qf m.p x).node (Clock.mk (0 : Int) (0 : Int)) ([] : List Arg)), ([] : List Arg))) rfl
 rw [h1, h2]
theorem dnb_t {T : List Task} {k : Nat} {t : Task} (h : T[k]? = some t) (hp : t.clock.period ≠ 0) : dnb T k = true := by
 unfold dnb;rw [h];show (!decide (t.clock.period = 0)) = true;rw [decide_eq_false hp];rfl
def Mono (T T' : List Task) : Prop := ∀ k, dnb T k = true → dnb T' k = true
def Rdy (p : Program) (T : List Task) (x : ByteArray × Expr) (j : Nat) : Prop := ∃ y, x.2.args[j]? = some y ∧ ∀ k' : Nat, (argOf p (zd x.1 j) y).src = ((p.inputs.length + k' : Nat) : Int) → dnb T k' = true
theorem Rdy.mono {p : Program} {T T' : List Task} {x : ByteArray × Expr} {j : Nat} (h : Rdy p T x j) (hm : Mono T T') : Rdy p T' x j := by
 obtain ⟨y, h1, h2⟩ := h;exact ⟨y, h1, fun k' hk => hm k' (h2 k' hk)⟩
theorem FW.callc {p : Program} {ρ : ByteArray → Clock} (w : FW p ρ) {k : Nat} {x : ByteArray × Expr} (hk : (cls (spP p.flows))[k]? = some x) {j : Nat} {y : Expr} (hy : x.2.args[j]? = some y) {c : Clock} (hc : RefC ρ y c) : RefC ρ x.2 c := by
 obtain ⟨hp, h2⟩ := w.cat hk;obtain ⟨d, hd⟩ := w.pclock hp;have hd' := hd;cases hd with
 | nm k => omega
 | call _ _ hall => rw [hc.of.det (hall y (List.mem_of_getElem? hy)).of]; exact hd'
 | op _ k2 _ _ _ => exact absurd h2 k2
theorem TaI.set {p : Program} {ρ : ByteArray → Clock} {T : List Task} (h : TaI p ρ T) {k : Nat} {x : ByteArray × Expr} (hk : (cls (spP p.flows))[k]? = some x) {c : Clock} (hc : RefC ρ x.2 c) : TaI p ρ (T.set k (qX p x c)) := by
 have hl : k < T.length := by rw [h.len]; exact (List.getElem?_eq_some_iff.1 hk).1
 refine ⟨by rw [List.length_set]; exact h.len, fun k' x' hk' => ?_⟩;by_cases e : k = k'
 ·subst e;rw [hk] at hk';obtain rfl := Option.some.inj hk';exact ⟨c, by rw [List.getElem?_set_self hl], .inr hc⟩
 ·obtain ⟨c', h1, h2⟩ := h.at_ k' x' hk';exact ⟨c', by rw [List.getElem?_set_ne e]; exact h1, h2⟩
theorem t_l4 {m : qi} {ρ : ByteArray → Clock} (w : FW m.p ρ) {T : List Task} (hT : TaI m.p ρ T) {k : Nat} {x : ByteArray × Expr} (hk : (cls (spP m.p.flows))[k]? = some x) (c0 : Clock) : ∃ T', qz (zL (k : Int) (qX m.p x c0) m Yt) ((0 : Int), T) = some T' ∧ TaI m.p ρ T' ∧ Mono T T' ∧ ∀ j, Rdy m.p T x j → dnb T' k = true := by
 have hbig : (1000000 : Nat) ≤ maxLen := by unfold maxLen; decide
 obtain ⟨hp, _⟩ := w.cat hk;have hargs : x.2.args.length ≤ 6 := by
  rcases (w.pfit hp).kinds with ⟨k, ha⟩ | ⟨k, h1, h2⟩ | ⟨h1, h2⟩
  ·rw [ha]; simp
  ·exact h2
  ·omega
 have hal := JZ m.p x;obtain ⟨r, h1, h2⟩ := qL (f := zL (k : Int) (qX m.p x c0) m Yt) (fun j v => ∃ T', v = ((j : Int), T') ∧ TaI m.p ρ T' ∧ Mono T T' ∧ ∀ j', j' < j → Rdy m.p T x j' → dnb T' k = true) (zF m.p x).length
  (fun T' : List Task => TaI m.p ρ T' ∧ Mono T T' ∧ ∀ j', j' < (zF m.p x).length → Rdy m.p T x j' → dnb T' k = true) (fun j v hj hv => by
   obtain ⟨T', rfl, q1, q2, q3⟩ := hv;unfold zL;have hj' : j < x.2.args.length := by omega
   have hpj := ZQ hp hj';have hy := List.getElem?_eq_getElem hj';obtain ⟨c, ok, g1, g2, g3⟩ := t_clk w q1 hpj;have hga : qB (zF m.p x) (j : Int) = some (argOf m.p (zd x.1 j) x.2.args[j]) := by
    have := qqA m.p x hy;rw [qy hj, ← List.getElem?_eq_getElem hj];exact this
   have hl : k < T'.length := by rw [q1.len]; exact (List.getElem?_eq_some_iff.1 hk).1
   obtain ⟨ck, g4, g5⟩ := q1.at_ k x hk;have hgk : qB T' (k : Int) = some (qX m.p x ck) := by
    rw [qy hl, ← List.getElem?_eq_getElem hl];exact g4
   have stay : (dnb T' k = true ∨ ok = false) → ∃ v', some (Sum.inl (IntKind.i64.wrap ((j : Int) + 1), T') : (Int × List Task) ⊕ List Task) = some (.inl v') ∧ ∃ T'', v' = (((j + 1 : Nat) : Int), T'') ∧ TaI m.p ρ T'' ∧ Mono T T'' ∧ ∀ j', j' < j + 1 → Rdy m.p T x j' → dnb T'' k = true := fun hs => by
    refine ⟨_, rfl, T', by rw [zc hj (by omega)], q1, q2, fun j' hlt hr => ?_⟩;by_cases he : j' = j
    ·subst he;rcases hs with hs | hs
     ·exact hs
     ·obtain ⟨y, e1, e2⟩ := hr.mono q2;rw [hy] at e1;obtain rfl := Option.some.inj e1;have := g3 e2;rw [hs] at this;cases this
    ·exact q3 j' (by omega) hr
   dsimp only;rw [if_pos (show decide ((j : Int) < (((qX m.p x c0).args.length : Nat) : Int)) = true from dlt hj)];rw [show qB (qX m.p x c0).args (j : Int) = some (argOf m.p (zd x.1 j) x.2.args[j]) from hga];simp only [Option.bind_some];rw [g1];simp only [Option.bind_some];cases ok with
   | false =>
    simp only [Bool.false_eq_true, if_false, Option.bind_some, Bool.false_and];exact .inl (stay (.inr rfl))
   | true =>
    simp only [if_true, hgk, Option.bind_some, Bool.true_and, qX];by_cases hz : ck.period = 0
    ·rw [if_pos (by rw [decide_eq_true hz])];have hset : setO T' (k : Int) (qX m.p x c) = some (T'.set k (qX m.p x c)) := by
      unfold setO;rw [if_pos ⟨by omega, by rw [Int.toNat_natCast]; exact hl⟩, Int.toNat_natCast]
     have hc := w.callc hk hy (g2 rfl);have hcp := cr_pos (w.cr hp hc);have hd : dnb (T'.set k (qX m.p x c)) k = true := by
      exact dnb_t (List.getElem?_set_self hl) (show c.period ≠ 0 by omega)
     have hmo : Mono T' (T'.set k (qX m.p x c)) := fun k' hk' => by
      by_cases e : k = k'
      ·subst e; exact hd
      ·unfold dnb at hk' ⊢;rw [List.getElem?_set_ne e];exact hk'
     have hset' : setO T' (k : Int) (Task.mk (ZC m.p x.2.name) c (zF m.p x)) = some (T'.set k (qX m.p x c)) := hset;rw [hset'];simp only [Option.bind_some];exact .inl ⟨_, rfl, _, by rw [zc hj (by omega)], q1.set hk hc, fun k' hk' => hmo k' (q2 k' hk'), fun _ _ _ => hd⟩
    ·rw [if_neg (by rw [decide_eq_true_eq]; exact hz)];simp only [Option.bind_some];exact .inl (stay (.inl (dnb_t g4 hz)))) (fun v hv => by
   obtain ⟨T', rfl, q1, q2, q3⟩ := hv;unfold zL;dsimp only;rw [if_neg (show ¬ (decide (((zF m.p x).length : Int) < (((qX m.p x c0).args.length : Nat) : Int)) = true) from dge' _)];exact ⟨_, rfl, q1, q2, q3⟩) (v0 := ((0 : Int), T)) ⟨T, rfl, hT, fun _ h => h, fun j' h => by omega⟩
 obtain ⟨q1, q2, q3⟩ := h2;exact ⟨r, h1, q1, q2, fun j hj => q3 j (by
  obtain ⟨y, e1, _⟩ := hj;have := (List.getElem?_eq_some_iff.1 e1).1;omega) hj⟩
theorem t_l3 {m : qi} {ρ : ByteArray → Clock} (w : FW m.p ρ) {T : List Task} (hT : TaI m.p ρ T) : ∃ T', qz (zM T m Yt) ((0 : Int), T) = some T' ∧ TaI m.p ρ T' ∧ Mono T T' ∧ ∀ k x, (cls (spP m.p.flows))[k]? = some x → ∀ j, Rdy m.p T x j → dnb T' k = true := by
 have hbig : (1000000 : Nat) ≤ maxLen := by unfold maxLen; decide
 have hcs := Qp w.fit;obtain ⟨r, h1, h2⟩ := qL (f := zM T m Yt) (fun i v => ∃ T', v = ((i : Int), T') ∧ TaI m.p ρ T' ∧ Mono T T' ∧ ∀ k x, k < i → (cls (spP m.p.flows))[k]? = some x → ∀ j, Rdy m.p T x j → dnb T' k = true) T.length
  (fun T' : List Task => TaI m.p ρ T' ∧ Mono T T' ∧ ∀ k x, k < T.length → (cls (spP m.p.flows))[k]? = some x → ∀ j, Rdy m.p T x j → dnb T' k = true) (fun i v hi hv => by
   obtain ⟨T', rfl, q1, q2, q3⟩ := hv;have hic : i < (cls (spP m.p.flows)).length := by rw [← hT.len]; exact hi
   have hx := List.getElem?_eq_getElem hic;obtain ⟨c, g1, g2⟩ := q1.at_ i _ hx;have hl : i < T'.length := by rw [q1.len]; exact hic
   have hg : qB T' (i : Int) = some (qX m.p (cls (spP m.p.flows))[i] c) := by
    rw [qy hl, ← List.getElem?_eq_getElem hl];exact g1
   obtain ⟨T2, g3, g4, g5, g6⟩ := t_l4 w q1 hx c;unfold zM;simp only [dlt hi, if_true];rw [hg];simp only [Option.bind_some];rw [g3];simp only [Option.bind_some];refine .inl ⟨_, rfl, T2, by rw [zc hi (by have := hT.len; omega)], g4, fun k' hk' => g5 k' (q2 k' hk'), fun k' x' hk' hx' j hr => ?_⟩;by_cases e : k' = i
   ·subst e;rw [hx] at hx';obtain rfl := Option.some.inj hx';exact g6 j (hr.mono q2)
   ·exact g5 k' (q3 k' x' (by omega) hx' j hr)) (fun v hv => by
   obtain ⟨T', rfl, q1, q2, q3⟩ := hv;unfold zM;simp only [dge, Bool.false_eq_true, if_false];exact ⟨_, rfl, q1, q2, q3⟩) (v0 := ((0 : Int), T)) ⟨T, rfl, hT, fun _ h => h, fun k x h => by omega⟩
 obtain ⟨q1, q2, q3⟩ := h2;exact ⟨r, h1, q1, q2, fun k x hx => q3 k x (by rw [hT.len]; exact (List.getElem?_eq_some_iff.1 hx).1) hx⟩
def UT (N : Nat) (T : List Task) : Nat := (List.range N).countP fun k => !dnb T k
theorem UT_le {N : Nat} {T T' : List Task} (h : Mono T T') : UT N T' ≤ UT N T := YP fun k _ hk => by
 cases hd : dnb T k with
 | false => rfl
 | true => rw [h k hd] at hk; cases hk
theorem UT_lt {N : Nat} {T T' : List Task} (h : Mono T T') {k : Nat} (hk : k < N) (h1 : dnb T k = false) (h2 : dnb T' k = true) : UT N T' < UT N T := YO (fun k _ hk => by
 cases hd : dnb T k with
 | false => rfl
 | true => rw [h k hd] at hk; cases hk) ⟨k, List.mem_range.2 hk, by rw [h1]; rfl, by rw [h2]; rfl⟩
theorem FW.done {p : Program} {ρ : ByteArray → Clock} (w : FW p ρ) {T : List Task} (h : ∀ k x, (cls (spP p.flows))[k]? = some x → ∀ j, Rdy p T x j → dnb T k = true) {k : Nat} {x : ByteArray × Expr} (hk : (cls (spP p.flows))[k]? = some x) : dnb T k = true := by
 refine w.reach (E := fun k => dnb T k = true) (fun k to e hk ⟨j, y, n, a, hj, ha, hs⟩ => ?_) (k := k) (to := x.1) (e := x.2) hk;refine h k _ hk j ⟨y, hj, ?_⟩;obtain ⟨hp, _⟩ := w.cat hk;obtain ⟨hjl, hje⟩ := List.getElem?_eq_some_iff.1 hj;have hpj := ZQ hp hjl;have hje' : e.args[j] = y := hje;simp only at hpj;rw [hje'] at hpj;rw [← w.argEq hpj ha];exact hs
theorem t_l2 {m : qi} {ρ : ByteArray → Clock} (w : FW m.p ρ) {T : List Task} (hT : TaI m.p ρ T) : ∃ T', qz (zN T m Yt) ((0 : Int), T) = some T' ∧ TaI m.p ρ T' ∧ ∀ k x, (cls (spP m.p.flows))[k]? = some x → dnb T' k = true := by
 have hbig : (1000000 : Nat) ≤ maxLen := by unfold maxLen; decide
 have hcs := Qp w.fit;have hTl := hT.len;obtain ⟨r, h1, h2⟩ := qL (f := zN T m Yt) (fun i v => ∃ T', v = ((i : Int), T') ∧ TaI m.p ρ T' ∧ (UT T.length T' + i ≤ T.length ∨ UT T.length T' = 0)) T.length
  (fun T' : List Task => TaI m.p ρ T' ∧ UT T.length T' = 0) (fun i v hi hv => by
   obtain ⟨T', rfl, q1, q2⟩ := hv;obtain ⟨T2, g1, g2, g3, g4⟩ := t_l3 w q1;unfold zN;simp only [dlt hi, if_true];rw [g1];simp only [Option.bind_some];refine .inl ⟨_, rfl, T2, by rw [zc hi (by omega)], g2, ?_⟩;have hle := UT_le (N := T.length) g3;by_cases hz : ∀ k x, (cls (spP m.p.flows))[k]? = some x → ∀ j, Rdy m.p T' x j → dnb T' k = true
   ·right;have : UT T.length T' = 0 := by
     unfold UT;rw [List.countP_eq_zero];intro k hk;have hk := List.mem_range.1 hk;have := w.done hz (List.getElem?_eq_getElem (show k < (cls (spP m.p.flows)).length by omega));rw [this];decide
    omega
   ·simp only [Classical.not_forall] at hz;obtain ⟨k, x, hk, j, hr, hd⟩ := hz;have hkl := (List.getElem?_eq_some_iff.1 hk).1;have := UT_lt (N := T.length) g3 (by omega : k < T.length) (by simpa using hd) (g4 k x hk j hr);rcases q2 with q2 | q2
    ·left; omega
    ·omega) (fun v hv => by
   obtain ⟨T', rfl, q1, q2⟩ := hv;unfold zN;simp only [dge, Bool.false_eq_true, if_false];exact ⟨_, rfl, q1, by omega⟩) (v0 := ((0 : Int), T)) ⟨T, rfl, hT, .inl (by
    have : UT T.length T ≤ (List.range T.length).length := List.countP_le_length;rw [List.length_range] at this;omega)⟩
 obtain ⟨q1, q2⟩ := h2;refine ⟨r, h1, q1, fun k x hk => ?_⟩;have hkl := (List.getElem?_eq_some_iff.1 hk).1;unfold UT at q2;rw [List.countP_eq_zero] at q2;have := q2 k (List.mem_range.2 (by omega));simpa using this
theorem t_tasks {m : qi} {ρ : ByteArray → Clock} (w : FW m.p ρ) (hm : MkOK m) (hc : m.calls = (cls (spP m.p.flows)).map (Qf m.p)) : ∃ T, zzQ m = some T ∧ T.length = (cls (spP m.p.flows)).length ∧ ∀ (k : Nat) (x : ByteArray × Expr), (cls (spP m.p.flows))[k]? = some x → ∃ c : Clock, T[k]? = some (qX m.p x c) ∧ RefC ρ x.2 c := by
 have hbig : (1000000 : Nat) ≤ maxLen := by unfold maxLen; decide
 have hcs := Qp w.fit;have hcl : m.calls.length = (cls (spP m.p.flows)).length := by rw [hc, List.length_map]
 obtain ⟨r, h1, h2⟩ := qL (f := Qe m JC) (fun i v => v = ((i : Int), ((cls (spP m.p.flows)).take i).map fun x => qX m.p x ⟨0, 0⟩)) m.calls.length (fun r : List Task => r = (cls (spP m.p.flows)).map fun x => qX m.p x ⟨0, 0⟩) (fun i v hi hv => by
  subst hv;unfold Qe;have hi' : i < (cls (spP m.p.flows)).length := by omega
  have hx := List.getElem?_eq_getElem hi';have hg : qB m.calls (i : Int) = some (Qf m.p (cls (spP m.p.flows))[i]) := by
   rw [qy hi];simp [hc]
  simp only [dlt hi, if_true, hg, Option.bind_some];rw [t_mkargs w hm hx];simp only [Option.bind_some];unfold zP;rw [if_pos (by simp only [List.length_map, List.length_take, List.length_cons, List.length_nil]; omega)];refine .inl ⟨_, rfl, ?_⟩;rw [zc hi (by omega), List.take_succ_eq_append_getElem hi', List.map_append];rfl) (fun v hv => by
  subst hv;unfold Qe;simp only [dge, Bool.false_eq_true, if_false];exact ⟨_, rfl, by rw [hcl, List.take_length]⟩) (v0 := ((0 : Int), ([] : List Task))) rfl
 subst h2;have hT : TaI m.p ρ ((cls (spP m.p.flows)).map fun x => qX m.p x ⟨0, 0⟩) := ⟨by simp, fun k x hk => ⟨⟨0, 0⟩, by rw [List.getElem?_map, hk]; rfl, .inl rfl⟩⟩;obtain ⟨T, g1, g2, g3⟩ := t_l2 w hT;refine ⟨T, ?_, g2.len, fun k x hk => ?_⟩
 ·unfold zzQ B_flat_maker_tasks;rw [h1];simp only [Option.bind_some];rw [g1];rfl
 ·obtain ⟨c, e1, e2⟩ := g2.at_ k x hk;refine ⟨c, e1, e2.resolve_left fun h => ?_⟩;have := g3 k x hk;subst h;simp [dnb, e1, qX] at this
def Big (p : Program) (to : ByteArray) (e : Expr) : Prop := ∃ n a, ArgR p n to e a ∧ 20 < a.ops.length
def LongC (p : Program) (l : List (ByteArray × Expr)) : Prop := ∃ x ∈ cls l, ∃ (j : Nat) (y : Expr), x.2.args[j]? = some y ∧ Big p (zd x.1 j) y
theorem zzV {p : Program} {ρ : ByteArray → Clock} (w : FW p ρ) {n : Nat} {to : ByteArray} {e : Expr} {a : Arg} (h : ArgR p n to e a) : Big p to e ↔ 20 < a.ops.length :=
 ⟨fun ⟨m, b, h1, h2⟩ => by rw [h.det w h1]; exact h2, fun h2 => ⟨n, a, h, h2⟩⟩
theorem LongC.app {p : Program} {a b : List (ByteArray × Expr)} : LongC p (a ++ b) ↔ LongC p a ∨ LongC p b := by
 unfold LongC;rw [YY];constructor
 ·rintro ⟨x, hx, h⟩
  rcases List.mem_append.1 hx with hx | hx
  ·exact .inl ⟨x, hx, h⟩
  ·exact .inr ⟨x, hx, h⟩
 ·rintro (⟨x, hx, h⟩ | ⟨x, hx, h⟩)
  ·exact ⟨x, List.mem_append.2 (.inl hx), h⟩
  ·exact ⟨x, List.mem_append.2 (.inr hx), h⟩
theorem LongC.spL {p : Program} {to : ByteArray} : ∀ {l : List Expr} {i : Nat}, LongC p (spL to i l) ↔ ∃ (j : Nat) (e : Expr), l[j]? = some e ∧ LongC p (spE (zd to (i + j)) e)
 | [], i => by simp [E.spL, LongC, cls]
 | e :: l, i => by
  rw [E.spL, LongC.app, LongC.spL (l := l) (i := i + 1)];constructor
  ·rintro (h | ⟨j, e', h1, h2⟩)
   ·exact ⟨0, e, rfl, h⟩
   ·exact ⟨j + 1, e', h1, by rw [show i + (j + 1) = i + 1 + j by omega]; exact h2⟩
  ·rintro ⟨j, e', h1, h2⟩
   cases j with
   | zero =>
    simp at h1;subst h1;exact .inl h2
   | succ j => exact .inr ⟨j, e', h1, by rw [show i + 1 + j = i + (j + 1) by omega]; exact h2⟩
theorem LongC.spE {p : Program} {to : ByteArray} {e : Expr} : LongC p (spE to e) ↔ ∃ (j : Nat) (x : Expr), e.args[j]? = some x ∧ ((e.kind = 2 ∧ Big p (zd to j) x) ∨ LongC p (E.spE (zd to j) x)) := by
 rw [zR];have h1 : LongC p ((to, e) :: E.spL to 0 e.args) ↔ LongC p [(to, e)] ∨ LongC p (E.spL to 0 e.args) := LongC.app (a := [(to, e)]);rw [h1, LongC.spL];simp only [Nat.zero_add];have h2 : LongC p [(to, e)] ↔ ∃ (j : Nat) (x : Expr), e.args[j]? = some x ∧ e.kind = 2 ∧ Big p (zd to j) x := by
  unfold LongC;constructor
  ·rintro ⟨x, hx, j, y, h, hb⟩
   obtain ⟨hx, hk⟩ := JL.1 hx;obtain rfl := List.mem_singleton.1 hx;exact ⟨j, y, h, hk, hb⟩
  ·rintro ⟨j, y, h, hk, hb⟩
   exact ⟨(to, e), JL.2 ⟨List.mem_singleton.2 rfl, hk⟩, j, y, h, hb⟩
 rw [h2];constructor
 ·rintro (⟨j, x, h, hb⟩ | ⟨j, x, h, hb⟩)
  ·exact ⟨j, x, h, .inl hb⟩
  ·exact ⟨j, x, h, .inr hb⟩
 ·rintro ⟨j, x, h, hb | hb⟩
  ·exact .inl ⟨j, x, h, hb⟩
  ·exact .inr ⟨j, x, h, hb⟩
def LongS (p : Program) (to : ByteArray) (e : Expr) (top : Bool) : Prop := (top = true ∧ Big p to e) ∨ LongC p (spE to e)
def pLong (x : qi × Expr × ByteArray × Bool) (r : Bool) : Prop := Sp_flat_maker_long x.1 x.2.1 x.2.2.1 x.2.2.2 r ∧ (r = true ↔ LongS x.1.p x.2.2.1 x.2.1 x.2.2.2)
noncomputable def YD (m : qi) (e : Expr) (to : ByteArray) (top : Bool) : Option Bool := pick pLong (m, e, to, top)
theorem s_long : Sat_flat_maker_long YD := fun _ _ _ _ _ h => (zJ h).1
theorem t_long {m : qi} {ρ : ByteArray → Clock} (w : FW m.p ρ) (hm : MkOK m) (e : Expr) : ∀ to top, (to, e) ∈ spP m.p.flows → to.size + 2 * za e ≤ 900000 → ∃ b, YD m e to top = some b ∧ (b = true ↔ LongS m.p to e top) := by
 induction e using Expr.induct with
 | h e ih =>
  intro to top hp hs;have hbig : (1000000 : Nat) ≤ maxLen := by unfold maxLen; decide
  have hse := zE e;have hargs : e.args.length ≤ 6 := by
   rcases (w.pfit hp).kinds with ⟨k, ha⟩ | ⟨k, h1, h2⟩ | ⟨h1, h2⟩
   ·rw [ha]; simp
   ·exact h2
   ·omega
  suffices hB : ∃ b, B_flat_maker_long YD JC JS m e to top = some b ∧ (b = true ↔ LongS m.p to e top) by
   obtain ⟨b, h1, h2⟩ := hB;obtain ⟨r, h3, _, h4⟩ := Qh (P := pLong) (a := (m, e, to, top)) ⟨b, W_flat_maker_long _ _ _ s_long s_arg s_way _ _ _ _ _ h1, h2⟩;exact ⟨r, h3, h4⟩
  obtain ⟨n, a, hn, har⟩ := w.ar hp;have hva := v_arg w hm har (by omega) (by omega);have hbi := zzV w har;obtain ⟨r, h1, h2⟩ := Qz (n := e.args.length) (by omega) (f := zT m e to YD JS) (fun i => ∃ x, e.args[i]? = some x ∧ LongS m.p (zd to i) x (decide (e.kind = 2))) (fun _ => true) (fun i hi => by
   unfold zT;have hmem := List.getElem_mem hi;have hsm := Zx hmem;obtain ⟨b, h5, h6⟩ := ih _ hmem (zd to i) (decide (e.kind = 2)) (ZQ hp hi) (by rw [Yy]; omega);simp only [dlt hi, if_true, qy hi, Option.bind_some, v_way (to := to) (i := i) (by omega) (by omega), List.getElem?_eq_getElem hi, Option.some.injEq];rw [h5];cases b with
   | true => exact .inl ⟨rfl, _, rfl, h6.1 rfl⟩
   | false => exact .inr ⟨rfl, fun ⟨x, hx, h⟩ => by subst hx; have := h6.2 h; cases this⟩) (by
   unfold zT;simp only [dge, Bool.false_eq_true, if_false])
  have hL : LongC m.p (spE to e) ↔ ∃ i, ∃ x, e.args[i]? = some x ∧ LongS m.p (zd to i) x (decide (e.kind = 2)) := by
   rw [LongC.spE];simp only [LongS, decide_eq_true_eq]
  have rest : ∃ b, ((qz (zT m e to YD JS) (0 : Int) : Option (Bool ⊕ Unit)).bind fun x => match x with
    | .inl r => some r
    | .inr _ => some false) = some b ∧ (b = true ↔ LongC m.p (spE to e)) := by
   rw [h1];rcases h2 with ⟨i, hi, rfl, hq, _⟩ | ⟨rfl, hq⟩
   ·exact ⟨true, rfl, fun _ => hL.2 ⟨i, hq⟩, fun _ => rfl⟩
   ·refine ⟨false, rfl, fun h => (by cases h), fun h => ?_⟩;obtain ⟨i, x, h, hh⟩ := hL.1 h;exact absurd ⟨x, h, hh⟩ (hq i (List.getElem?_eq_some_iff.1 h).1)
  obtain ⟨b, hb1, hb2⟩ := rest;unfold B_flat_maker_long;cases top with
  | false =>
   simp only [Bool.false_eq_true, if_false, Option.bind_some, Bool.false_and];refine ⟨b, hb1, ?_⟩;rw [hb2, LongS];simp
  | true =>
   simp only [if_true, Bool.true_and];rw [hva];simp only [Option.bind_some];by_cases hc : 20 < a.ops.length
   ·rw [if_pos (by rw [decide_eq_true_eq]; omega)];exact ⟨true, rfl, fun _ => .inl ⟨rfl, hbi.2 hc⟩, fun _ => rfl⟩
   ·rw [if_neg (by rw [decide_eq_true_eq]; omega)];refine ⟨b, hb1, ?_⟩;rw [hb2, LongS];exact ⟨.inr, fun h => h.elim (fun h => absurd (hbi.1 h.2) hc) id⟩
theorem QQb {p : Program} : LongC p (spP p.flows) ↔ ∃ f ∈ p.flows, LongC p (spE f.name f.e) := by
 have : ∀ fs : List Flow, LongC p (spP fs) ↔ ∃ f ∈ fs, LongC p (spE f.name f.e) := by
  intro fs;induction fs with
  | nil => simp [spP, LongC, cls]
  | cons f fs ih =>
   have e1 : spP (f :: fs) = spE f.name f.e ++ spP fs := by rw [spP, List.flatMap_cons]; rfl
   rw [e1, LongC.app, ih];simp
 exact this _
end Go.Proofs.Ytohmmfimedgccaa.E
end
section
namespace Go.Proofs.Ytohmmfimedgccaa.E
set_option maxRecDepth 100000
set_option maxHeartbeats 4000000
set_option linter.unusedVariables false
set_option linter.unusedSimpArgs false
noncomputable def Zt (v72 : (Mp Int)) (v73 : (Mp Int)) (v75 : (List ql)) (v74 : qi) (a0 : Program) (a1 : (List Clock)) (f3 : qi → Expr → ByteArray → Option Arg) : (Int × Flat × (List Clock) × (List Tell)) → Option ((Int × Flat × (List Clock) × (List Tell)) ⊕ (Flat × (List Clock) × (List Tell)))
 | (v114, v115, v116, v117) =>
  if (decide (v114 < ((List.length a0.outputs : Nat) : Int))) then
   ((qB a0.outputs v114).bind fun y126 =>
   (qB a1 (Option.getD (Mp.get v72 y126.flow) (0 : Int))).bind fun y130 =>
   (qB a0.flows (Option.getD (Mp.get v72 y126.flow) (0 : Int))).bind fun y132 =>
   (f3 (qi.mk v74.p v72 v75 v73 v74.error v74.e) y132.e y126.flow).bind fun y134 =>
   (zP 56 v117 ([(Tell.mk y130 y134 y126.deadline)])).bind fun y136 =>
   some ((Flat.mk v116 v115.nodes v115.tasks y136), v116, y136) : Option (Flat × (List Clock) × (List Tell))).bind fun (v123, v124, v125) =>
   some (.inl ((IntKind.i64.wrap (v114 + (1 : Int))), (Flat.mk v124 v123.nodes v123.tasks v125), v124, v125))
  else
   some (.inr ((Flat.mk v116 v115.nodes v115.tasks v117), v116, v117))
noncomputable def Zu (a0 : Program) (f1 : qi → Expr → ByteArray → Bool → Option Bool) : (Int × (Mp Int) × (Mp Int) × qi × (List ql)) → Option ((Int × (Mp Int) × (Mp Int) × qi × (List ql)) ⊕ ((Mp Int) × (Mp Int) × qi × (List ql)))
 | (v76, v77, v78, v79, v80) =>
  if (decide (v76 < ((List.length a0.flows : Nat) : Int))) then
   ((qB a0.flows v76).bind fun y90 =>
   (if (decide (v79.e = (0 : Int))) then
    (f1 (qi.mk v79.p v77 v80 v78 v79.error v79.e) y90.e y90.name true).bind fun y93 =>
    some y93
   else
    some false).bind fun w95 =>
   (if ((decide (v79.e = (0 : Int))) && w95) then
    some (v77, v78, (qi.mk v79.p v77 v80 v78 y90.at_ (8 : Int)), v80)
   else
    some (v77, v78, (qi.mk v79.p v77 v80 v78 v79.error v79.e), v80) : Option ((Mp Int) × (Mp Int) × qi × (List ql))).bind fun (v100, v101, v102, v103) =>
   some (v100, v101, (qi.mk v102.p v100 v103 v101 v102.error v102.e), v103) : Option ((Mp Int) × (Mp Int) × qi × (List ql))).bind fun (v86, v87, v88, v89) =>
   some (.inl ((IntKind.i64.wrap (v76 + (1 : Int))), v86, v87, (qi.mk v88.p v86 v89 v87 v88.error v88.e), v89))
  else
   some (.inr (v77, v78, (qi.mk v79.p v77 v80 v78 v79.error v79.e), v80))
noncomputable def Zv (a0 : Program) (f0 : qi → Expr → ByteArray → Option (Unit × qi)) : (Int × (Mp Int) × (Mp Int) × qi × (List ql)) → Option ((Int × (Mp Int) × (Mp Int) × qi × (List ql)) ⊕ ((Mp Int) × (Mp Int) × qi × (List ql)))
 | (v48, v49, v50, v51, v52) =>
  if (decide (v48 < ((List.length a0.flows : Nat) : Int))) then
   ((qB a0.flows v48).bind fun y62 =>
   (Jw v49 y62.name v48).bind fun y65 =>
   (f0 (qi.mk v51.p y65 v52 v50 v51.error v51.e) y62.e y62.name).bind fun y67 =>
   some (y67.2.flows, y67.2.at_, (qi.mk y67.2.p y67.2.flows y67.2.calls y67.2.at_ y67.2.error y67.2.e), y67.2.calls) : Option ((Mp Int) × (Mp Int) × qi × (List ql))).bind fun (v58, v59, v60, v61) =>
   some (.inl ((IntKind.i64.wrap (v48 + (1 : Int))), v58, v59, (qi.mk v60.p v58 v61 v59 v60.error v60.e), v61))
  else
   some (.inr (v49, v50, (qi.mk v51.p v49 v52 v50 v51.error v51.e), v52))
noncomputable def Zw (a0 : Program) : (Int × (Mp Int) × (Mp Int) × qi × (List ql) × Flat × (List Clock) × (List Tell)) → Option ((Int × (Mp Int) × (Mp Int) × qi × (List ql) × Flat × (List Clock) × (List Tell)) ⊕ ((Mp Int) × (Mp Int) × qi × (List ql) × Flat × (List Clock) × (List Tell)))
 | (v10, v11, v12, v13, v14, v15, v16, v17) =>
  if (decide (v10 < ((List.length a0.inputs : Nat) : Int))) then
   ((qB a0.inputs v10).bind fun y30 =>
   (Jw v11 y30.name (IntKind.i64.wrap ((-1 : Int) - v10))).bind fun y33 =>
   (zP 16 v16 ([(Clock.mk y30.period y30.phase)])).bind fun y35 =>
   some (y33, v12, (qi.mk v13.p y33 v14 v12 v13.error v13.e), v14, (Flat.mk y35 v15.nodes v15.tasks v17), y35, v17) : Option ((Mp Int) × (Mp Int) × qi × (List ql) × Flat × (List Clock) × (List Tell))).bind fun (v23, v24, v25, v26, v27, v28, v29) =>
   some (.inl ((IntKind.i64.wrap (v10 + (1 : Int))), v23, v24, (qi.mk v25.p v23 v26 v24 v25.error v25.e), v26, (Flat.mk v28 v27.nodes v27.tasks v29), v28, v29))
  else
   some (.inr (v11, v12, (qi.mk v13.p v11 v14 v12 v13.error v13.e), v14, (Flat.mk v16 v15.nodes v15.tasks v17), v16, v17))
noncomputable def B_flat_Make (f0 : qi → Expr → ByteArray → Option (Unit × qi)) (f1 : qi → Expr → ByteArray → Bool → Option Bool) (f2 : qi → Option (List Task)) (f3 : qi → Expr → ByteArray → Option Arg) (a0 : Program) (a1 : (List Clock)) : Option (Flat × Int × Int) :=
 (qz (Zw a0) ((0 : Int), (Mp.emp : Mp Int), (Mp.emp : Mp Int), (qi.mk a0 (Mp.emp : Mp Int) ([] : List ql) (Mp.emp : Mp Int) (0 : Int) (0 : Int)), ([] : List ql), (Flat.mk ([] : List Clock) a0.nodes ([]) ([] : List Tell)), ([] : List Clock), ([] : List Tell)) : Option ((Mp Int) × (Mp Int) × qi × (List ql) × Flat × (List Clock) × (List Tell))).bind fun (v3, v4, v5, v6, v7, v8, v9) =>
 (qz (Zv a0 f0) ((0 : Int), v3, v4, (qi.mk v5.p v3 v6 v4 v5.error v5.e), v6) : Option ((Mp Int) × (Mp Int) × qi × (List ql))).bind fun (v44, v45, v46, v47) =>
 (qz (Zu a0 f1) ((0 : Int), v44, v45, (qi.mk v46.p v44 v47 v45 v46.error v46.e), v47) : Option ((Mp Int) × (Mp Int) × qi × (List ql))).bind fun (v72, v73, v74, v75) =>
 if (!decide (v74.e = (0 : Int))) then
  some ((Flat.mk ([]) ([]) ([]) ([])), v74.error, v74.e)
 else
  (f2 (qi.mk v74.p v72 v75 v73 v74.error v74.e)).bind fun y107 =>
  (qz (Zt v72 v73 v75 v74 a0 a1 f3) ((0 : Int), (Flat.mk v8 v7.nodes y107 v9), v8, v9) : Option (Flat × (List Clock) × (List Tell))).bind fun (v111, v112, v113) =>
  some ((Flat.mk v112 v111.nodes v111.tasks v113), (0 : Int), (0 : Int))
abbrev qI : Int → PV := fun v : Int => (PV.v (.int .i64 v))
abbrev C18_0 (z0 z1 : Store) (z2 : Nat) (z3 : qi) (z4 z5 : Nat) (z6 : (List ql)) (z7 : Nat) : Prop := Bx z0 z1 z2 130 [(.sl (List.map Node.cl z3.p.nodes)), (.sl (List.map Input.cl z3.p.inputs)), (.sl (List.map Flow.cl z3.p.flows)), (.sl (List.map Output.cl z3.p.outputs)), (.mp z4), (.ow z5 (List.map ql.cl z6)), (.mp z7), (.v (.int .i64 z3.error)), (.v (.int .i64 z3.e))]
abbrev C18_1 (z0 : Store) (z1 : Nat) (z2 : (Mp Int)) : Prop := Gx z0 z1 (AObj.map .s (mpF (fun v : Int => (PV.v (.int .i64 v))) (Mp.get z2)) (Mp.n z2))
abbrev C18_2 (z0 z1 : Store) (z2 z3 : Nat) (z4 : (List Clock)) (z5 : Flat) (z6 : Nat) (z7 : (List Tell)) : Prop := Bx z0 z1 z2 49 [(.ow z3 (List.map Clock.cl z4)), (.sl (List.map Node.cl z5.nodes)), (.sl (List.map Task.cl z5.tasks)), (.ow z6 (List.map Tell.cl z7))]
abbrev C18_3 (z0 : Store) (z1 : Nat) (z2 : (List ql)) : Prop := Gx z0 z1 (tkO 164 3 (List.length z2))
abbrev C18_4 (z0 : Store) (z1 : Nat) (z2 : (List Clock)) : Prop := Gx z0 z1 (tkO 43 2 (List.length z2))
abbrev C18_5 (z0 : Store) (z1 : Nat) (z2 : (List Tell)) : Prop := Gx z0 z1 (tkO 73 5 (List.length z2))
abbrev C18_6 (z0 z1 : Store) (z2 : Nat) : Prop := Bx z0 z1 z2 49 [.e0, .e0, .e0, .e0]
abbrev C18_7 (z0 z1 : Store) (z2 : Nat) (z3 : Program) : Prop := Bx z0 z1 z2 27 (Program.cl z3)
abbrev C18_8 (z0 z1 : Store) (z2 : Nat) (z3 : Program) (z4 z5 z6 : Nat) : Prop := Bx z0 z1 z2 130 [(.sl (List.map Node.cl z3.nodes)), (.sl (List.map Input.cl z3.inputs)), (.sl (List.map Flow.cl z3.flows)), (.sl (List.map Output.cl z3.outputs)), (.mp z4), (.ow z5 (List.map ql.cl ([] : List ql))), (.mp z6), (.v (.int .i64 (0 : Int))), (.v (.int .i64 (0 : Int)))]
abbrev C18_9 (z0 : Store) (z1 : Nat) : Prop := Gx z0 z1 (AObj.map .s (mpF (fun v : Int => (PV.v (.int .i64 v))) (Mp.get (Mp.emp : Mp Int))) (Mp.n (Mp.emp : Mp Int)))
theorem W_flat_Make (f0 f1 f2 f3) (S0 : Sat_flat_maker_number f0) (S1 : Sat_flat_maker_long f1) (S2 : Sat_flat_maker_tasks f2) (S3 : Sat_flat_maker_arg f3) : Sat_flat_Make (B_flat_Make f0 f1 f2 f3) := by
 intro a0 a1 r h σ K hK;refine qZ Try.func18 rfl rfl (by kernel_rfl) ?_;unfold B_flat_Make at h;have hP := Pre.refl σ;have E0 : qD [(.ag (Program.cl a0)), (.sl (List.map Clock.cl a1))] 0 = (.ag (Program.cl a0)) := rfl;have E1 : qD [(.ag (Program.cl a0)), (.sl (List.map Clock.cl a1))] 1 = (.sl (List.map Clock.cl a1)) := rfl;have TT := cj16 Arg.cle Clock.cle Expr.rlen Flow.cle Input.cle Output.cle Program.cle T_107 T_127 T_128 T_130 T_2 T_22 T_23 T_24 (QJ T_25 T_27 T_3 T_30 T_33 T_37 T_39 T_4 T_41 T_43 T_46 T_47 T_49 T_61 T_65 T_68 T_73 T_9 T_96 T_99);refine qk (fun e s => ∃ i2 i4 : Nat, C18_7 σ s i2 a0 ∧ C18_6 σ s i4 ∧ eS e 1 Clock.cl a1 ∧ eP e 2 i2 ∧ eP e 4 i4 ∧ i2 ≠ i4 ∧ Pre σ s) ?_ ?_
 ·refine w_x (cj2 E0 TT) ?_;have q1 := Bx.new hP 27 (Program.cl a0);exact qg ⟨σ.length, (σ ++ [some (AObj.box 27 (Program.cl a0))]).length, (q1.app _), (Bx.new (hP.app _) 49 [.e0, .e0, .e0, .e0]), E1, (xv (cj2 E0 TT)), (xv (cj2 E0 TT)), (Nat.ne_of_lt q1.lt), ((hP.app _).app _)⟩
 rintro e s ⟨i2, i4, X2, X4, E1, E2, E4, N2__4, hP⟩
 refine qk (fun e s => ∃ i19 i20 i22 i22_5 : Nat, C18_9 s i19 ∧ σ.length ≤ i19 ∧ C18_7 σ s i2 a0 ∧ C18_9 s i20 ∧ σ.length ≤ i20 ∧ C18_8 σ s i22 a0 i19 i22_5 i20 ∧ Gx s i22_5 (tkO 164 3 (List.length ([] : List ql))) ∧ σ.length ≤ i22_5 ∧ C18_6 σ s i4 ∧ eS e 1 Clock.cl a1 ∧ eP e 2 i2 ∧ eP e 4 i4 ∧ eP e 7 i22 ∧ i19 ≠ i20 ∧ i2 ≠ i22 ∧ i2 ≠ i4 ∧ i22 ≠ i4 ∧ Pre σ s) ?_ ?_
 ·have q2 := cj4 E2 X2.g3 (Program.clu a0) TT;refine w_x q2 ?_;exact Yp (((Gh.refl _ _).tr Gh.hole).tr (Gh.boxq ((Bx.new ((hP.app _).app _) _ _).app _).get (.cons (.refl _) (.cons (.refl _) (.cons (.refl _) (.cons (.refl _) (.cons (.refl _) (.cons (Wq.holw (Gx.cast (o' := (tkO 164 3 (List.length ([] : List ql)))) (Gx.new _ _) rfl).get Nilp.e0) (.cons (.refl _) (.cons (.refl _) (.cons (.refl _) .nil))))))))))) ⟨_, _, _, _, (((((Gx.cast (Gx.new _ _) (YT qI)).app _).app _).app _).ne (Ne.symm (Nat.ne_of_lt ((Gx.cast (Gx.new _ _) (YT qI)).app _).lt)) _), (Pre.le hP), (((((X2.app _).app _).app _).app _).ne (Ne.symm (Nat.ne_of_lt ((X2.app _).app _).lt)) _), ((((Gx.cast (Gx.new _ _) (YT qI)).app _).app _).ne (Ne.symm (Nat.ne_of_lt (Gx.cast (Gx.new _ _) (YT qI)).lt)) _), (Pre.le (hP.app _)), (((Bx.new ((hP.app _).app _) _ _).app _).same _ _), ((Gx.cast (o' := (tkO 164 3 (List.length ([] : List ql)))) (Gx.new _ _) rfl).ne (Nat.ne_of_lt (Bx.new ((hP.app _).app _) _ _).lt) _), (Pre.le (((hP.app _).app _).app _)), (((((X4.app _).app _).app _).app _).ne (Ne.symm (Nat.ne_of_lt ((X4.app _).app _).lt)) _), E1, E2, E4, (xv q2), (Nat.ne_of_lt (Gx.cast (Gx.new _ _) (YT qI)).lt), (Nat.ne_of_lt ((X2.app _).app _).lt), N2__4, (Ne.symm (Nat.ne_of_lt ((X4.app _).app _).lt)), (((((hP.app _).app _).app _).app _).set (Pre.le ((hP.app _).app _)) _)⟩
 rintro e s ⟨i19, i20, i22, i22_5, X19, L19, X2, X20, L20, X22, X22_5, L22_5, X4, E1, E2, E4, E7, N19__20, N2__22, N2__4, N22__4, hP⟩
 refine qk (fun e s => ∃ i8 i8_0 i8_3 : Nat, C18_9 s i19 ∧ σ.length ≤ i19 ∧ C18_7 σ s i2 a0 ∧ C18_9 s i20 ∧ σ.length ≤ i20 ∧ C18_8 σ s i22 a0 i19 i22_5 i20 ∧ Gx s i22_5 (tkO 164 3 (List.length ([] : List ql))) ∧ σ.length ≤ i22_5 ∧ C18_6 σ s i4 ∧ Bx σ s i8 49 [(.ow i8_0 (List.map Clock.cl ([] : List Clock))), (.sl (List.map Node.cl a0.nodes)), .e0, (.ow i8_3 (List.map Tell.cl ([] : List Tell)))] ∧ Gx s i8_0 (tkO 43 2 (List.length ([] : List Clock))) ∧ σ.length ≤ i8_0 ∧ Gx s i8_3 (tkO 73 5 (List.length ([] : List Tell))) ∧ σ.length ≤ i8_3 ∧ eS e 1 Clock.cl a1 ∧ eP e 2 i2 ∧ eP e 4 i4 ∧ eP e 7 i22 ∧ eP e 8 i8 ∧ i19 ≠ i20 ∧ i2 ≠ i22 ∧ i2 ≠ i4 ∧ i2 ≠ i8 ∧ i22 ≠ i4 ∧ i22 ≠ i8 ∧ i22_5 ≠ i8_0 ∧ i22_5 ≠ i8_3 ∧ i4 ≠ i8 ∧ i8_0 ≠ i8_3 ∧ Pre σ s) ?_ ?_
 ·refine w_x (cj3 E2 X2.g3 TT) ?_;exact Yp (((((Gh.refl _ _).tr Gh.hole).tr (Gh.boxq ((Bx.new hP _ _).app _).get (.cons (Wq.holw (Gx.cast (o' := (tkO 43 2 (List.length ([] : List Clock)))) (Gx.new _ _) rfl).get Nilp.e0) (.cons (.refl _) (.cons (.refl _) (.cons (.refl _) .nil)))))).tr Gh.hole).tr (Gh.boxq ((((Bx.new hP _ _).app _).same _ _).app _).get (.cons (.refl _) (.cons (.refl _) (.cons (.refl _) (.cons (Wq.holw (Gx.cast (o' := (tkO 73 5 (List.length ([] : List Tell)))) (Gx.new _ _) rfl).get Nilp.e0) .nil)))))) ⟨_, _, _, (((((X19.app _).app _).ne (Ne.symm (Nat.ne_of_lt X19.lt)) _).app _).ne (Ne.symm (Nat.ne_of_lt X19.lt)) _), L19, (((((X2.app _).app _).ne (Ne.symm (Nat.ne_of_lt X2.lt)) _).app _).ne (Ne.symm (Nat.ne_of_lt X2.lt)) _), (((((X20.app _).app _).ne (Ne.symm (Nat.ne_of_lt X20.lt)) _).app _).ne (Ne.symm (Nat.ne_of_lt X20.lt)) _), L20, (((((X22.app _).app _).ne (Ne.symm (Nat.ne_of_lt X22.lt)) _).app _).ne (Ne.symm (Nat.ne_of_lt X22.lt)) _), (((((X22_5.app _).app _).ne (Ne.symm (Nat.ne_of_lt X22_5.lt)) _).app _).ne (Ne.symm (Nat.ne_of_lt X22_5.lt)) _), L22_5, (((((X4.app _).app _).ne (Ne.symm (Nat.ne_of_lt X4.lt)) _).app _).ne (Ne.symm (Nat.ne_of_lt X4.lt)) _), (((((Bx.new hP _ _).app _).same _ _).app _).same _ _), ((((Gx.cast (o' := (tkO 43 2 (List.length ([] : List Clock)))) (Gx.new _ _) rfl).ne (Nat.ne_of_lt (Bx.new hP _ _).lt) _).app _).ne (Nat.ne_of_lt (Bx.new hP _ _).lt) _), (Pre.le (hP.app _)), ((Gx.cast (o' := (tkO 73 5 (List.length ([] : List Tell)))) (Gx.new _ _) rfl).ne (Nat.ne_of_lt (((Bx.new hP _ _).app _).same _ _).lt) _), (Pre.le (((hP.app _).app _).set (Pre.le hP) _)), E1, E2, E4, E7, (xv (cj3 E2 X2.g3 TT)), N19__20, N2__22, N2__4, (Nat.ne_of_lt X2.lt), N22__4, (Nat.ne_of_lt X22.lt), (Nat.ne_of_lt (X22_5.app _).lt), (Nat.ne_of_lt (((X22_5.app _).app _).ne (Ne.symm (Nat.ne_of_lt X22_5.lt)) _).lt), (Nat.ne_of_lt X4.lt), (Nat.ne_of_lt ((Gx.cast (o' := (tkO 43 2 (List.length ([] : List Clock)))) (Gx.new _ _) rfl).ne (Nat.ne_of_lt (Bx.new hP _ _).lt) _).lt), (((((hP.app _).app _).set (Pre.le hP) _).app _).set (Pre.le hP) _)⟩
 rintro e s ⟨i8, i8_0, i8_3, X19, L19, X2, X20, L20, X22, X22_5, L22_5, X4, X8, X8_0, L8_0, X8_3, L8_3, E1, E2, E4, E7, E8, N19__20, N2__22, N2__4, N2__8, N22__4, N22__8, N22_5__8_0, N22_5__8_3, N4__8, N8_0__8_3, hP⟩
 refine qm (qe (w_x (cj3 E2 X2.get TT) ?_));refine qf ?_;obtain ⟨x1, h2, h⟩ := qb h;refine qk (fun e s => ∃ v3 v4 v5 v6 v7 v8 v9, (v3, v4, v5, v6, v7, v8, v9) = x1 ∧ C18_1 s i19 v3 ∧ σ.length ≤ i19 ∧ C18_7 σ s i2 a0 ∧ C18_1 s i20 v4 ∧ σ.length ≤ i20 ∧ C18_0 σ s i22 v5 i19 i22_5 v6 i20 ∧ C18_3 s i22_5 v6 ∧ σ.length ≤ i22_5 ∧ C18_6 σ s i4 ∧ C18_2 σ s i8 i8_0 v8 v7 i8_3 v9 ∧ C18_4 s i8_0 v8 ∧ σ.length ≤ i8_0 ∧ C18_5 s i8_3 v9 ∧ σ.length ≤ i8_3 ∧ eS e 1 Clock.cl a1 ∧ eP e 2 i2 ∧ eP e 4 i4 ∧ eP e 7 i22 ∧ eP e 8 i8 ∧ i19 ≠ i20 ∧ i2 ≠ i22 ∧ i2 ≠ i4 ∧ i2 ≠ i8 ∧ i22 ≠ i4 ∧ i22 ≠ i8 ∧ i22_5 ≠ i8_0 ∧ i22_5 ≠ i8_3 ∧ i4 ≠ i8 ∧ i8_0 ≠ i8_3 ∧ Pre σ s) ?_ ?_
 ·refine qo (zzJ h2 (fun v e s => ∃ v10 v11 v12 v13 v14 v15 v16 v17, (v10, v11, v12, v13, v14, v15, v16, v17) = v ∧ C18_1 s i19 v11 ∧ σ.length ≤ i19 ∧ C18_7 σ s i2 a0 ∧ C18_1 s i20 v12 ∧ σ.length ≤ i20 ∧ C18_0 σ s i22 v13 i19 i22_5 v14 i20 ∧ C18_3 s i22_5 v14 ∧ σ.length ≤ i22_5 ∧ C18_6 σ s i4 ∧ C18_2 σ s i8 i8_0 v16 v15 i8_3 v17 ∧ C18_4 s i8_0 v16 ∧ σ.length ≤ i8_0 ∧ C18_5 s i8_3 v17 ∧ σ.length ≤ i8_3 ∧ eS e 1 Clock.cl a1 ∧ eP e 2 i2 ∧ eP e 4 i4 ∧ eP e 7 i22 ∧ eP e 8 i8 ∧ eS e 27 Input.cl a0.inputs ∧ eL e 28 a0.inputs ∧ eI e 29 v10 ∧ i19 ≠ i20 ∧ i2 ≠ i22 ∧ i2 ≠ i4 ∧ i2 ≠ i8 ∧ i22 ≠ i4 ∧ i22 ≠ i8 ∧ i22_5 ≠ i8_0 ∧ i22_5 ≠ i8_3 ∧ i4 ≠ i8 ∧ i8_0 ≠ i8_3 ∧ Pre σ s) ⟨_, _, ((Gh.refl _ _).tr (Gh.box (c' := [(.ow i8_0 (List.map Clock.cl ([] : List Clock))), (.sl (List.map Node.cl a0.nodes)), (.sl []), (.ow i8_3 (List.map Tell.cl ([] : List Tell)))]) X8.get (.cons (.refl _) (.cons (.refl _) (.cons .e0 (.cons (.refl _) .nil)))))), _, _, _, _, _, _, _, _, rfl, (X19.ne (Gx.ap X8.gx X19) (some (AObj.box 49 [(.ow i8_0 (List.map Clock.cl ([] : List Clock))), (.sl (List.map Node.cl a0.nodes)), (.sl []), (.ow i8_3 (List.map Tell.cl ([] : List Tell)))]))), L19, (X2.ne (Ne.symm N2__8) (some (AObj.box 49 [(.ow i8_0 (List.map Clock.cl ([] : List Clock))), (.sl (List.map Node.cl a0.nodes)), (.sl []), (.ow i8_3 (List.map Tell.cl ([] : List Tell)))]))), (X20.ne (Gx.ap X8.gx X20) (some (AObj.box 49 [(.ow i8_0 (List.map Clock.cl ([] : List Clock))), (.sl (List.map Node.cl a0.nodes)), (.sl []), (.ow i8_3 (List.map Tell.cl ([] : List Tell)))]))), L20, (X22.ne (Ne.symm N22__8) (some (AObj.box 49 [(.ow i8_0 (List.map Clock.cl ([] : List Clock))), (.sl (List.map Node.cl a0.nodes)), (.sl []), (.ow i8_3 (List.map Tell.cl ([] : List Tell)))]))), (X22_5.ne (Gx.ap X8.gx X22_5) (some (AObj.box 49 [(.ow i8_0 (List.map Clock.cl ([] : List Clock))), (.sl (List.map Node.cl a0.nodes)), (.sl []), (.ow i8_3 (List.map Tell.cl ([] : List Tell)))]))), L22_5, (X4.ne (Ne.symm N4__8) (some (AObj.box 49 [(.ow i8_0 (List.map Clock.cl ([] : List Clock))), (.sl (List.map Node.cl a0.nodes)), (.sl []), (.ow i8_3 (List.map Tell.cl ([] : List Tell)))]))), (X8.same 49 [(.ow i8_0 (List.map Clock.cl ([] : List Clock))), (.sl (List.map Node.cl a0.nodes)), (.sl []), (.ow i8_3 (List.map Tell.cl ([] : List Tell)))]), (X8_0.ne (Gx.ap X8.gx X8_0) (some (AObj.box 49 [(.ow i8_0 (List.map Clock.cl ([] : List Clock))), (.sl (List.map Node.cl a0.nodes)), (.sl []), (.ow i8_3 (List.map Tell.cl ([] : List Tell)))]))), L8_0, (X8_3.ne (Gx.ap X8.gx X8_3) (some (AObj.box 49 [(.ow i8_0 (List.map Clock.cl ([] : List Clock))), (.sl (List.map Node.cl a0.nodes)), (.sl []), (.ow i8_3 (List.map Tell.cl ([] : List Tell)))]))), L8_3, E1, E2, E4, E7, E8, (xv TT), (xv TT), (xv TT), N19__20, N2__22, N2__4, N2__8, N22__4, N22__8, N22_5__8_0, N22_5__8_3, N4__8, N8_0__8_3, (hP.set X8.le (some (AObj.box 49 [(.ow i8_0 (List.map Clock.cl ([] : List Clock))), (.sl (List.map Node.cl a0.nodes)), (.sl []), (.ow i8_3 (List.map Tell.cl ([] : List Tell)))])))⟩ ?_)
  rintro v x18 e s hf19 ⟨v10, v11, v12, v13, v14, v15, v16, v17, rfl, X19, L19, X2, X20, L20, X22, X22_5, L22_5, X4, X8, X8_0, L8_0, X8_3, L8_3, E1, E2, E4, E7, E8, E27, E28, E29, N19__20, N2__22, N2__4, N2__8, N22__4, N22__8, N22_5__8_0, N22_5__8_3, N4__8, N8_0__8_3, hP⟩
  unfold Zw at hf19;(try dsimp only at hf19);refine qe (w_x (cj3 E28 E29 TT) ?_);refine qf (qe ?_);rcases qj hf19 with ⟨hb20, hf19⟩ | ⟨hb20, hf19⟩
  ·refine xt hb20 (qn (qf ?_));obtain ⟨x21, h22, hf19⟩ := qb hf19;refine qk (fun e s => ∃ v23 v24 v25 v26 v27 v28 v29, (v23, v24, v25, v26, v27, v28, v29) = x21 ∧ C18_1 s i19 v23 ∧ σ.length ≤ i19 ∧ C18_7 σ s i2 a0 ∧ C18_1 s i20 v24 ∧ σ.length ≤ i20 ∧ C18_0 σ s i22 v25 i19 i22_5 v26 i20 ∧ C18_3 s i22_5 v26 ∧ σ.length ≤ i22_5 ∧ C18_6 σ s i4 ∧ C18_2 σ s i8 i8_0 v28 v27 i8_3 v29 ∧ C18_4 s i8_0 v28 ∧ σ.length ≤ i8_0 ∧ C18_5 s i8_3 v29 ∧ σ.length ≤ i8_3 ∧ eS e 1 Clock.cl a1 ∧ eP e 2 i2 ∧ eP e 4 i4 ∧ eP e 7 i22 ∧ eP e 8 i8 ∧ eS e 27 Input.cl a0.inputs ∧ eL e 28 a0.inputs ∧ eI e 29 v10 ∧ i19 ≠ i20 ∧ i2 ≠ i22 ∧ i2 ≠ i4 ∧ i2 ≠ i8 ∧ i22 ≠ i4 ∧ i22 ≠ i8 ∧ i22_5 ≠ i8_0 ∧ i22_5 ≠ i8_3 ∧ i4 ≠ i8 ∧ i8_0 ≠ i8_3 ∧ Pre σ s) ?_ ?_
   ·refine qo ?_;obtain ⟨y30, h31, h22⟩ := qb h22;refine qk (fun e s => ∃ i10 : Nat, Bx σ s i10 96 (Input.cl y30) ∧ C18_1 s i19 v11 ∧ σ.length ≤ i19 ∧ C18_7 σ s i2 a0 ∧ C18_1 s i20 v12 ∧ σ.length ≤ i20 ∧ C18_0 σ s i22 v13 i19 i22_5 v14 i20 ∧ C18_3 s i22_5 v14 ∧ σ.length ≤ i22_5 ∧ C18_6 σ s i4 ∧ C18_2 σ s i8 i8_0 v16 v15 i8_3 v17 ∧ C18_4 s i8_0 v16 ∧ σ.length ≤ i8_0 ∧ C18_5 s i8_3 v17 ∧ σ.length ≤ i8_3 ∧ eS e 1 Clock.cl a1 ∧ eP e 2 i2 ∧ eP e 4 i4 ∧ eP e 7 i22 ∧ eP e 8 i8 ∧ eI e 9 v10 ∧ eP e 10 i10 ∧ eS e 27 Input.cl a0.inputs ∧ eL e 28 a0.inputs ∧ eI e 29 v10 ∧ i10 ≠ i22 ∧ i10 ≠ i4 ∧ i10 ≠ i8 ∧ i19 ≠ i20 ∧ i2 ≠ i22 ∧ i2 ≠ i4 ∧ i2 ≠ i8 ∧ i22 ≠ i4 ∧ i22 ≠ i8 ∧ i22_5 ≠ i8_0 ∧ i22_5 ≠ i8_3 ∧ i4 ≠ i8 ∧ i8_0 ≠ i8_3 ∧ Pre σ s) ?_ ?_
    ·have R32 := qA (f := Input.cl) (qh h31).2;have q3 := cj5 E27 E29 R32 (qh h31).1 TT;refine w_x q3 ?_;exact qg ⟨s.length, (Bx.new hP _ _), (X19.app _), L19, (X2.app _), (X20.app _), L20, (X22.app _), (X22_5.app _), L22_5, (X4.app _), (X8.app _), (X8_0.app _), L8_0, (X8_3.app _), L8_3, E1, E2, E4, E7, E8, (xv q3), (xv q3), E27, E28, E29, (Ne.symm (Nat.ne_of_lt X22.lt)), (Ne.symm (Nat.ne_of_lt X4.lt)), (Ne.symm (Nat.ne_of_lt X8.lt)), N19__20, N2__22, N2__4, N2__8, N22__4, N22__8, N22_5__8_0, N22_5__8_3, N4__8, N8_0__8_3, (hP.app _)⟩
    rintro e s ⟨i10, X10, X19, L19, X2, X20, L20, X22, X22_5, L22_5, X4, X8, X8_0, L8_0, X8_3, L8_3, E1, E2, E4, E7, E8, E9, E10, E27, E28, E29, N10__22, N10__4, N10__8, N19__20, N2__22, N2__4, N2__8, N22__4, N22__8, N22_5__8_0, N22_5__8_3, N4__8, N8_0__8_3, hP⟩
    obtain ⟨y33, h34, h22⟩ := qb h22;refine qk (fun e s => Bx σ s i10 96 (Input.cl y30) ∧ C18_1 s i19 y33 ∧ σ.length ≤ i19 ∧ C18_7 σ s i2 a0 ∧ C18_1 s i20 v12 ∧ σ.length ≤ i20 ∧ C18_0 σ s i22 v13 i19 i22_5 v14 i20 ∧ C18_3 s i22_5 v14 ∧ σ.length ≤ i22_5 ∧ C18_6 σ s i4 ∧ C18_2 σ s i8 i8_0 v16 v15 i8_3 v17 ∧ C18_4 s i8_0 v16 ∧ σ.length ≤ i8_0 ∧ C18_5 s i8_3 v17 ∧ σ.length ≤ i8_3 ∧ eS e 1 Clock.cl a1 ∧ eP e 2 i2 ∧ eP e 4 i4 ∧ eP e 7 i22 ∧ eP e 8 i8 ∧ eP e 10 i10 ∧ eS e 27 Input.cl a0.inputs ∧ eL e 28 a0.inputs ∧ eI e 29 v10 ∧ i10 ≠ i22 ∧ i10 ≠ i4 ∧ i10 ≠ i8 ∧ i19 ≠ i20 ∧ i2 ≠ i22 ∧ i2 ≠ i4 ∧ i2 ≠ i8 ∧ i22 ≠ i4 ∧ i22 ≠ i8 ∧ i22_5 ≠ i8_0 ∧ i22_5 ≠ i8_3 ∧ i4 ≠ i8 ∧ i8_0 ≠ i8_3 ∧ Pre σ s) ?_ ?_
    ·have q4 := Gx.ap X19 X22_5;have q5 := Gx.ap X19 X22.gx;have q6 := Gx.ap X19 X10.gx;have q7 := Gx.same X19 (AObj.map .s (upm (mpF qI (Mp.get v11)) (.string y30.name) (.v (.int .i64 (IntKind.i64.wrap ((-1 : Int) - v10))))) (Mp.n v11 + 1));have q8 := Gx.cast q7 (qqJ (f := qI) h34);have q9 := cj15 E7 E9 E10 X10.get X19.get X20.get X22.get X22_5.get (JI h34).1 (X10.nea q6) q8.get (X20.nea N19__20) (X22.nea q5) (X22_5.nea q4) TT;refine zh 8 0 q9 ?_;refine qY q9 ?_;exact qg ⟨(X10.ne q6 _), q8, L19, (X2.ne (Gx.ap X19 X2.gx) _), (X20.ne N19__20 _), L20, (X22.ne q5 _), (X22_5.ne q4 _), L22_5, (X4.ne (Gx.ap X19 X4.gx) _), (X8.ne (Gx.ap X19 X8.gx) _), (X8_0.ne (Gx.ap X19 X8_0) _), L8_0, (X8_3.ne (Gx.ap X19 X8_3) _), L8_3, E1, E2, E4, E7, E8, E10, E27, E28, E29, N10__22, N10__4, N10__8, N19__20, N2__22, N2__4, N2__8, N22__4, N22__8, N22_5__8_0, N22_5__8_3, N4__8, N8_0__8_3, (hP.set L19 (some (AObj.map .s (upm (mpF qI (Mp.get v11)) (.string y30.name) (.v (.int .i64 (IntKind.i64.wrap ((-1 : Int) - v10))))) (Mp.n v11 + 1))))⟩
    rintro e s ⟨X10, X19, L19, X2, X20, L20, X22, X22_5, L22_5, X4, X8, X8_0, L8_0, X8_3, L8_3, E1, E2, E4, E7, E8, E10, E27, E28, E29, N10__22, N10__4, N10__8, N19__20, N2__22, N2__4, N2__8, N22__4, N22__8, N22_5__8_0, N22_5__8_3, N4__8, N8_0__8_3, hP⟩
    obtain ⟨y35, h36, h22⟩ := qb h22;have hv38 : (List.map Clock.cl v16) ++ ([[(.v (.int .i64 y30.period)), (.v (.int .i64 y30.phase))]] : List (List PV)) = (List.map Clock.cl y35) := by rw [← (qO h36).2, List.map_append]; rfl
    have hb39 : ((List.map Clock.cl v16).length + ([[(.v (.int .i64 y30.period)), (.v (.int .i64 y30.phase))]] : List (List PV)).length) * 16 ≤ 140737488355328 ∧ (List.map Clock.cl v16).length + ([[(.v (.int .i64 y30.period)), (.v (.int .i64 y30.phase))]] : List (List PV)).length ≤ 140737488355328 := by simpa [Expr.rlen] using (qO h36).1
    have ha40 := qqa (i := i8_0) (s := s) (n := List.length v16) (k := List.length y35) (x := (.sl [[(.v (.int .i64 y30.period)), (.v (.int .i64 y30.phase))]])) (rows := (List.map Clock.cl v16)) (ns := ([[(.v (.int .i64 y30.period)), (.v (.int .i64 y30.phase))]] : List (List PV))) (vr := (List.map Clock.cl y35)) T_33 T_43 X8_0.get (by simp [Expr.rlen]) (zt (f := Clock.cl) (n := 2) (fun _ => rfl) _) (JK rfl) (by simp) (by decide) hb39 hv38 (by simp [Expr.rlen]) rfl;have q10 := Gx.ap X8_0 X8.gx;have q11 := Gx.same X8_0 (tkO 43 2 (List.length y35));have q12 := X8.ne q10 (some (tkO 43 2 (List.length y35)));have q13 := X8_3.ne N8_0__8_3 (some (tkO 43 2 (List.length y35)));have q14 := X10.ne (Gx.ap X8_0 X10.gx) (some (tkO 43 2 (List.length y35)));refine w_x (cj16 E8 E10 X10.get X8.get X8_0.get X8_3.get ha40 q14.get q12.get q11.get q13.get (q14.ne (Ne.symm N10__8) (some (AObj.box 49 [(.ow i8_0 (List.map Clock.cl y35)), (.sl (List.map Node.cl v15.nodes)), (.sl (List.map Task.cl v15.tasks)), (.ow i8_3 (List.map Tell.cl v17))]))).get (q12.same 49 [(.ow i8_0 (List.map Clock.cl y35)), (.sl (List.map Node.cl v15.nodes)), (.sl (List.map Task.cl v15.tasks)), (.ow i8_3 (List.map Tell.cl v17))]).get (q11.ne (Gx.ap X8.gx X8_0) (some (AObj.box 49 [(.ow i8_0 (List.map Clock.cl y35)), (.sl (List.map Node.cl v15.nodes)), (.sl (List.map Task.cl v15.tasks)), (.ow i8_3 (List.map Tell.cl v17))]))).get (q13.ne (Gx.ap X8.gx X8_3) (some (AObj.box 49 [(.ow i8_0 (List.map Clock.cl y35)), (.sl (List.map Node.cl v15.nodes)), (.sl (List.map Task.cl v15.tasks)), (.ow i8_3 (List.map Tell.cl v17))]))).get TT) ?_;refine qP ?_;obtain rfl := qa h22;exact qg ⟨_, _, _, _, _, _, _, rfl, ((X19.ne (Gx.ap X8_0 X19) _).ne (Gx.ap X8.gx X19) _), L19, ((X2.ne (Gx.ap X8_0 X2.gx) _).ne (Ne.symm N2__8) _), ((X20.ne (Gx.ap X8_0 X20) _).ne (Gx.ap X8.gx X20) _), L20, ((X22.ne (Gx.ap X8_0 X22.gx) _).ne (Ne.symm N22__8) _), ((X22_5.ne (Ne.symm N22_5__8_0) _).ne (Gx.ap X8.gx X22_5) _), L22_5, ((X4.ne (Gx.ap X8_0 X4.gx) _).ne (Ne.symm N4__8) _), (q12.same _ _), (q11.ne (Gx.ap X8.gx X8_0) _), L8_0, (q13.ne (Gx.ap X8.gx X8_3) _), L8_3, E1, E2, E4, E7, E8, E27, E28, E29, N19__20, N2__22, N2__4, N2__8, N22__4, N22__8, N22_5__8_0, N22_5__8_3, N4__8, N8_0__8_3, ((hP.set L8_0 (some (tkO 43 2 (List.length y35)))).set q12.le (some (AObj.box 49 [(.ow i8_0 (List.map Clock.cl y35)), (.sl (List.map Node.cl v15.nodes)), (.sl (List.map Task.cl v15.tasks)), (.ow i8_3 (List.map Tell.cl v17))])))⟩
   rintro e s ⟨v23, v24, v25, v26, v27, v28, v29, rfl, X19, L19, X2, X20, L20, X22, X22_5, L22_5, X4, X8, X8_0, L8_0, X8_3, L8_3, E1, E2, E4, E7, E8, E27, E28, E29, N19__20, N2__22, N2__4, N2__8, N22__4, N22__8, N22_5__8_0, N22_5__8_3, N4__8, N8_0__8_3, hP⟩
   (try dsimp only at hf19);refine w_x (cj2 E29 TT) ?_;obtain rfl := qa hf19;exact qT rfl ⟨_, _, _, _, _, _, _, _, rfl, X19, L19, X2, X20, L20, X22, X22_5, L22_5, X4, X8, X8_0, L8_0, X8_3, L8_3, E1, E2, E4, E7, E8, E27, E28, (xv (cj2 E29 TT)), N19__20, N2__22, N2__4, N2__8, N22__4, N22__8, N22_5__8_0, N22_5__8_3, N4__8, N8_0__8_3, hP⟩
  ·refine xf hb20 (qE (qM ?_));obtain rfl := qa hf19;refine qS rfl fun hr41 => ?_;obtain rfl := hr41;exact qK (qg ⟨_, _, _, _, _, _, _, rfl, X19, L19, X2, X20, L20, X22, X22_5, L22_5, X4, X8, X8_0, L8_0, X8_3, L8_3, E1, E2, E4, E7, E8, N19__20, N2__22, N2__4, N2__8, N22__4, N22__8, N22_5__8_0, N22_5__8_3, N4__8, N8_0__8_3, hP⟩)
 rintro e s ⟨v3, v4, v5, v6, v7, v8, v9, rfl, X19, L19, X2, X20, L20, X22, X22_5, L22_5, X4, X8, X8_0, L8_0, X8_3, L8_3, E1, E2, E4, E7, E8, N19__20, N2__22, N2__4, N2__8, N22__4, N22__8, N22_5__8_0, N22_5__8_3, N4__8, N8_0__8_3, hP⟩
 (try dsimp only at h);refine qm (qe (w_x (cj3 E2 X2.get TT) ?_));refine qf ?_;obtain ⟨x42, h43, h⟩ := qb h;refine qk (fun e s => ∃ v44 v45 v46 v47, (v44, v45, v46, v47) = x42 ∧ C18_1 s i19 v44 ∧ σ.length ≤ i19 ∧ C18_7 σ s i2 a0 ∧ C18_1 s i20 v45 ∧ σ.length ≤ i20 ∧ C18_0 σ s i22 v46 i19 i22_5 v47 i20 ∧ C18_3 s i22_5 v47 ∧ σ.length ≤ i22_5 ∧ C18_6 σ s i4 ∧ C18_2 σ s i8 i8_0 v8 v7 i8_3 v9 ∧ C18_4 s i8_0 v8 ∧ σ.length ≤ i8_0 ∧ C18_5 s i8_3 v9 ∧ σ.length ≤ i8_3 ∧ eS e 1 Clock.cl a1 ∧ eP e 2 i2 ∧ eP e 4 i4 ∧ eP e 7 i22 ∧ eP e 8 i8 ∧ i19 ≠ i20 ∧ i2 ≠ i22 ∧ i2 ≠ i4 ∧ i2 ≠ i8 ∧ i22 ≠ i4 ∧ i22 ≠ i8 ∧ i22_5 ≠ i8_0 ∧ i22_5 ≠ i8_3 ∧ i4 ≠ i8 ∧ i8_0 ≠ i8_3 ∧ Pre σ s) ?_ ?_
 ·refine qo (qH h43 (fun v e s => ∃ v48 v49 v50 v51 v52, (v48, v49, v50, v51, v52) = v ∧ C18_1 s i19 v49 ∧ σ.length ≤ i19 ∧ C18_7 σ s i2 a0 ∧ C18_1 s i20 v50 ∧ σ.length ≤ i20 ∧ C18_0 σ s i22 v51 i19 i22_5 v52 i20 ∧ C18_3 s i22_5 v52 ∧ σ.length ≤ i22_5 ∧ C18_6 σ s i4 ∧ C18_2 σ s i8 i8_0 v8 v7 i8_3 v9 ∧ C18_4 s i8_0 v8 ∧ σ.length ≤ i8_0 ∧ C18_5 s i8_3 v9 ∧ σ.length ≤ i8_3 ∧ eS e 1 Clock.cl a1 ∧ eP e 2 i2 ∧ eP e 4 i4 ∧ eP e 7 i22 ∧ eP e 8 i8 ∧ eS e 54 Flow.cl a0.flows ∧ eL e 55 a0.flows ∧ eI e 56 v48 ∧ i19 ≠ i20 ∧ i2 ≠ i22 ∧ i2 ≠ i4 ∧ i2 ≠ i8 ∧ i22 ≠ i4 ∧ i22 ≠ i8 ∧ i22_5 ≠ i8_0 ∧ i22_5 ≠ i8_3 ∧ i4 ≠ i8 ∧ i8_0 ≠ i8_3 ∧ Pre σ s) ⟨_, WkE.refl _, _, _, _, _, _, rfl, X19, L19, X2, X20, L20, X22, X22_5, L22_5, X4, X8, X8_0, L8_0, X8_3, L8_3, E1, E2, E4, E7, E8, (xv TT), (xv TT), (xv TT), N19__20, N2__22, N2__4, N2__8, N22__4, N22__8, N22_5__8_0, N22_5__8_3, N4__8, N8_0__8_3, hP⟩ ?_)
  rintro v x53 e s hf54 ⟨v48, v49, v50, v51, v52, rfl, X19, L19, X2, X20, L20, X22, X22_5, L22_5, X4, X8, X8_0, L8_0, X8_3, L8_3, E1, E2, E4, E7, E8, E54, E55, E56, N19__20, N2__22, N2__4, N2__8, N22__4, N22__8, N22_5__8_0, N22_5__8_3, N4__8, N8_0__8_3, hP⟩
  unfold Zv at hf54;(try dsimp only at hf54);refine qe (w_x (cj3 E55 E56 TT) ?_);refine qf (qe ?_);rcases qj hf54 with ⟨hb55, hf54⟩ | ⟨hb55, hf54⟩
  ·refine xt hb55 (qn (qf ?_));obtain ⟨x56, h57, hf54⟩ := qb hf54;refine qk (fun e s => ∃ v58 v59 v60 v61, (v58, v59, v60, v61) = x56 ∧ C18_1 s i19 v58 ∧ σ.length ≤ i19 ∧ C18_7 σ s i2 a0 ∧ C18_1 s i20 v59 ∧ σ.length ≤ i20 ∧ C18_0 σ s i22 v60 i19 i22_5 v61 i20 ∧ C18_3 s i22_5 v61 ∧ σ.length ≤ i22_5 ∧ C18_6 σ s i4 ∧ C18_2 σ s i8 i8_0 v8 v7 i8_3 v9 ∧ C18_4 s i8_0 v8 ∧ σ.length ≤ i8_0 ∧ C18_5 s i8_3 v9 ∧ σ.length ≤ i8_3 ∧ eS e 1 Clock.cl a1 ∧ eP e 2 i2 ∧ eP e 4 i4 ∧ eP e 7 i22 ∧ eP e 8 i8 ∧ eS e 54 Flow.cl a0.flows ∧ eL e 55 a0.flows ∧ eI e 56 v48 ∧ i19 ≠ i20 ∧ i2 ≠ i22 ∧ i2 ≠ i4 ∧ i2 ≠ i8 ∧ i22 ≠ i4 ∧ i22 ≠ i8 ∧ i22_5 ≠ i8_0 ∧ i22_5 ≠ i8_3 ∧ i4 ≠ i8 ∧ i8_0 ≠ i8_3 ∧ Pre σ s) ?_ ?_
   ·refine qo ?_;obtain ⟨y62, h63, h57⟩ := qb h57;refine qk (fun e s => ∃ i12 : Nat, Bx σ s i12 41 (Flow.cl y62) ∧ C18_1 s i19 v49 ∧ σ.length ≤ i19 ∧ C18_7 σ s i2 a0 ∧ C18_1 s i20 v50 ∧ σ.length ≤ i20 ∧ C18_0 σ s i22 v51 i19 i22_5 v52 i20 ∧ C18_3 s i22_5 v52 ∧ σ.length ≤ i22_5 ∧ C18_6 σ s i4 ∧ C18_2 σ s i8 i8_0 v8 v7 i8_3 v9 ∧ C18_4 s i8_0 v8 ∧ σ.length ≤ i8_0 ∧ C18_5 s i8_3 v9 ∧ σ.length ≤ i8_3 ∧ eS e 1 Clock.cl a1 ∧ eP e 2 i2 ∧ eP e 4 i4 ∧ eP e 7 i22 ∧ eP e 8 i8 ∧ eI e 11 v48 ∧ eP e 12 i12 ∧ eS e 54 Flow.cl a0.flows ∧ eL e 55 a0.flows ∧ eI e 56 v48 ∧ i12 ≠ i22 ∧ i12 ≠ i4 ∧ i12 ≠ i8 ∧ i19 ≠ i20 ∧ i2 ≠ i22 ∧ i2 ≠ i4 ∧ i2 ≠ i8 ∧ i22 ≠ i4 ∧ i22 ≠ i8 ∧ i22_5 ≠ i8_0 ∧ i22_5 ≠ i8_3 ∧ i4 ≠ i8 ∧ i8_0 ≠ i8_3 ∧ Pre σ s) ?_ ?_
    ·have R64 := qA (f := Flow.cl) (qh h63).2;have q15 := cj5 E54 E56 R64 (qh h63).1 TT;refine w_x q15 ?_;exact qg ⟨s.length, (Bx.new hP _ _), (X19.app _), L19, (X2.app _), (X20.app _), L20, (X22.app _), (X22_5.app _), L22_5, (X4.app _), (X8.app _), (X8_0.app _), L8_0, (X8_3.app _), L8_3, E1, E2, E4, E7, E8, (xv q15), (xv q15), E54, E55, E56, (Ne.symm (Nat.ne_of_lt X22.lt)), (Ne.symm (Nat.ne_of_lt X4.lt)), (Ne.symm (Nat.ne_of_lt X8.lt)), N19__20, N2__22, N2__4, N2__8, N22__4, N22__8, N22_5__8_0, N22_5__8_3, N4__8, N8_0__8_3, (hP.app _)⟩
    rintro e s ⟨i12, X12, X19, L19, X2, X20, L20, X22, X22_5, L22_5, X4, X8, X8_0, L8_0, X8_3, L8_3, E1, E2, E4, E7, E8, E11, E12, E54, E55, E56, N12__22, N12__4, N12__8, N19__20, N2__22, N2__4, N2__8, N22__4, N22__8, N22_5__8_0, N22_5__8_3, N4__8, N8_0__8_3, hP⟩
    obtain ⟨y65, h66, h57⟩ := qb h57;refine qk (fun e s => Bx σ s i12 41 (Flow.cl y62) ∧ C18_1 s i19 y65 ∧ σ.length ≤ i19 ∧ C18_7 σ s i2 a0 ∧ C18_1 s i20 v50 ∧ σ.length ≤ i20 ∧ C18_0 σ s i22 v51 i19 i22_5 v52 i20 ∧ C18_3 s i22_5 v52 ∧ σ.length ≤ i22_5 ∧ C18_6 σ s i4 ∧ C18_2 σ s i8 i8_0 v8 v7 i8_3 v9 ∧ C18_4 s i8_0 v8 ∧ σ.length ≤ i8_0 ∧ C18_5 s i8_3 v9 ∧ σ.length ≤ i8_3 ∧ eS e 1 Clock.cl a1 ∧ eP e 2 i2 ∧ eP e 4 i4 ∧ eP e 7 i22 ∧ eP e 8 i8 ∧ eP e 12 i12 ∧ eS e 54 Flow.cl a0.flows ∧ eL e 55 a0.flows ∧ eI e 56 v48 ∧ i12 ≠ i22 ∧ i12 ≠ i4 ∧ i12 ≠ i8 ∧ i19 ≠ i20 ∧ i2 ≠ i22 ∧ i2 ≠ i4 ∧ i2 ≠ i8 ∧ i22 ≠ i4 ∧ i22 ≠ i8 ∧ i22_5 ≠ i8_0 ∧ i22_5 ≠ i8_3 ∧ i4 ≠ i8 ∧ i8_0 ≠ i8_3 ∧ Pre σ s) ?_ ?_
    ·have q16 := Gx.ap X19 X22_5;have q17 := Gx.ap X19 X22.gx;have q18 := Gx.ap X19 X12.gx;have q19 := Gx.same X19 (AObj.map .s (upm (mpF qI (Mp.get v49)) (.string y62.name) (.v (.int .i64 v48))) (Mp.n v49 + 1));have q20 := Gx.cast q19 (qqJ (f := qI) h66);have q21 := cj15 E7 E11 E12 X12.get X19.get X20.get X22.get X22_5.get (JI h66).1 (X12.nea q18) q20.get (X20.nea N19__20) (X22.nea q17) (X22_5.nea q16) TT;refine zh 7 0 q21 ?_;refine qY q21 ?_;exact qg ⟨(X12.ne q18 _), q20, L19, (X2.ne (Gx.ap X19 X2.gx) _), (X20.ne N19__20 _), L20, (X22.ne q17 _), (X22_5.ne q16 _), L22_5, (X4.ne (Gx.ap X19 X4.gx) _), (X8.ne (Gx.ap X19 X8.gx) _), (X8_0.ne (Gx.ap X19 X8_0) _), L8_0, (X8_3.ne (Gx.ap X19 X8_3) _), L8_3, E1, E2, E4, E7, E8, E12, E54, E55, E56, N12__22, N12__4, N12__8, N19__20, N2__22, N2__4, N2__8, N22__4, N22__8, N22_5__8_0, N22_5__8_3, N4__8, N8_0__8_3, (hP.set L19 (some (AObj.map .s (upm (mpF qI (Mp.get v49)) (.string y62.name) (.v (.int .i64 v48))) (Mp.n v49 + 1))))⟩
    rintro e s ⟨X12, X19, L19, X2, X20, L20, X22, X22_5, L22_5, X4, X8, X8_0, L8_0, X8_3, L8_3, E1, E2, E4, E7, E8, E12, E54, E55, E56, N12__22, N12__4, N12__8, N19__20, N2__22, N2__4, N2__8, N22__4, N22__8, N22_5__8_0, N22_5__8_3, N4__8, N8_0__8_3, hP⟩
    obtain ⟨y67, h68, h57⟩ := qb h57;have q22 := Gx.ap X22_5 X20;have q23 := Gx.ap X22_5 X19;have q24 := Gx.ap X19 X22_5;have q25 := Gx.ap X20 X22_5;have q26 := Gx.ap X19 X22.gx;have q27 := Gx.ap X22.gx X19;have q28 := Gx.ap X22.gx X20;have q29 := Gx.ap X20 X22.gx;have q30 := Gx.ap X19 X12.gx;have q31 := Gx.ap X22_5 X12.gx;have q32 := Gx.ap X22_5 X22.gx;have q33 := Gx.ap X22.gx X22_5;have q34 := X22.same 130 [(.sl (List.map Node.cl y67.2.p.nodes)), (.sl (List.map Input.cl y67.2.p.inputs)), (.sl (List.map Flow.cl y67.2.p.flows)), (.sl (List.map Output.cl y67.2.p.outputs)), (.mp i19), (.ow i22_5 (List.map ql.cl y67.2.calls)), (.mp i20), (.v (.int .i64 y67.2.error)), (.v (.int .i64 y67.2.e))];have q35 := X20.ne q28 (some (AObj.box 130 [(.sl (List.map Node.cl y67.2.p.nodes)), (.sl (List.map Input.cl y67.2.p.inputs)), (.sl (List.map Flow.cl y67.2.p.flows)), (.sl (List.map Output.cl y67.2.p.outputs)), (.mp i19), (.ow i22_5 (List.map ql.cl y67.2.calls)), (.mp i20), (.v (.int .i64 y67.2.error)), (.v (.int .i64 y67.2.e))]));have q36 := Gx.same ((q35.ne N19__20 (some (AObj.map .s (mpF qI (Mp.get y67.2.flows)) (Mp.n y67.2.flows)))).ne q22 (some (tkO 164 3 (List.length y67.2.calls)))) (AObj.map .s (mpF qI (Mp.get y67.2.at_)) (Mp.n y67.2.at_));have q37 := X19.ne q27 (some (AObj.box 130 [(.sl (List.map Node.cl y67.2.p.nodes)), (.sl (List.map Input.cl y67.2.p.inputs)), (.sl (List.map Flow.cl y67.2.p.flows)), (.sl (List.map Output.cl y67.2.p.outputs)), (.mp i19), (.ow i22_5 (List.map ql.cl y67.2.calls)), (.mp i20), (.v (.int .i64 y67.2.error)), (.v (.int .i64 y67.2.e))]));have q38 := Gx.same q37 (AObj.map .s (mpF qI (Mp.get y67.2.flows)) (Mp.n y67.2.flows));have q39 := X22_5.ne q33 (some (AObj.box 130 [(.sl (List.map Node.cl y67.2.p.nodes)), (.sl (List.map Input.cl y67.2.p.inputs)), (.sl (List.map Flow.cl y67.2.p.flows)), (.sl (List.map Output.cl y67.2.p.outputs)), (.mp i19), (.ow i22_5 (List.map ql.cl y67.2.calls)), (.mp i20), (.v (.int .i64 y67.2.error)), (.v (.int .i64 y67.2.e))]));have q40 := Gx.same (q39.ne q24 (some (AObj.map .s (mpF qI (Mp.get y67.2.flows)) (Mp.n y67.2.flows)))) (tkO 164 3 (List.length y67.2.calls));have q41 := X12.ne (Ne.symm N12__22) (some (AObj.box 130 [(.sl (List.map Node.cl y67.2.p.nodes)), (.sl (List.map Input.cl y67.2.p.inputs)), (.sl (List.map Flow.cl y67.2.p.flows)), (.sl (List.map Output.cl y67.2.p.outputs)), (.mp i19), (.ow i22_5 (List.map ql.cl y67.2.calls)), (.mp i20), (.v (.int .i64 y67.2.error)), (.v (.int .i64 y67.2.e))]));have q42 := QJ q37.get q35.get q34.get q39.get (q41.ne q30 (some (AObj.map .s (mpF qI (Mp.get y67.2.flows)) (Mp.n y67.2.flows)))).get q38.get (q35.ne N19__20 (some (AObj.map .s (mpF qI (Mp.get y67.2.flows)) (Mp.n y67.2.flows)))).get (q34.ne q26 (some (AObj.map .s (mpF qI (Mp.get y67.2.flows)) (Mp.n y67.2.flows)))).get (q39.ne q24 (some (AObj.map .s (mpF qI (Mp.get y67.2.flows)) (Mp.n y67.2.flows)))).get ((q41.ne q30 (some (AObj.map .s (mpF qI (Mp.get y67.2.flows)) (Mp.n y67.2.flows)))).ne q31 (some (tkO 164 3 (List.length y67.2.calls)))).get (q38.ne q23 (some (tkO 164 3 (List.length y67.2.calls)))).get ((q35.ne N19__20 (some (AObj.map .s (mpF qI (Mp.get y67.2.flows)) (Mp.n y67.2.flows)))).ne q22 (some (tkO 164 3 (List.length y67.2.calls)))).get ((q34.ne q26 (some (AObj.map .s (mpF qI (Mp.get y67.2.flows)) (Mp.n y67.2.flows)))).ne q32 (some (tkO 164 3 (List.length y67.2.calls)))).get q40.get (((q41.ne q30 (some (AObj.map .s (mpF qI (Mp.get y67.2.flows)) (Mp.n y67.2.flows)))).ne q31 (some (tkO 164 3 (List.length y67.2.calls)))).ne (Gx.ap X20 X12.gx) (some (AObj.map .s (mpF qI (Mp.get y67.2.at_)) (Mp.n y67.2.at_)))).get ((q38.ne q23 (some (tkO 164 3 (List.length y67.2.calls)))).ne (Ne.symm N19__20) (some (AObj.map .s (mpF qI (Mp.get y67.2.at_)) (Mp.n y67.2.at_)))).get q36.get (((q34.ne q26 (some (AObj.map .s (mpF qI (Mp.get y67.2.flows)) (Mp.n y67.2.flows)))).ne q32 (some (tkO 164 3 (List.length y67.2.calls)))).ne q29 (some (AObj.map .s (mpF qI (Mp.get y67.2.at_)) (Mp.n y67.2.at_)))).get (q40.ne q25 (some (AObj.map .s (mpF qI (Mp.get y67.2.at_)) (Mp.n y67.2.at_)))).get TT;have q43 := cj9 E7 E12 X12.get X19.get X20.get X22.get X22_5.get q41.get q42;refine w_x q43 ?_;refine S0 _ _ _ _ h68 _ _ _ _ _ _ X22.gx X19 X22_5 X20 N19__20 ?_;refine w_y q43 ?_;refine qP ?_;obtain rfl := qa h57;exact qg ⟨_, _, _, _, rfl, ((q38.ne q23 _).ne (Ne.symm N19__20) _), L19, ((((X2.ne (Ne.symm N2__22) _).ne (Gx.ap X19 X2.gx) _).ne (Gx.ap X22_5 X2.gx) _).ne (Gx.ap X20 X2.gx) _), q36, L20, (((q34.ne q26 _).ne q32 _).ne q29 _), (q40.ne q25 _), L22_5, ((((X4.ne N22__4 _).ne (Gx.ap X19 X4.gx) _).ne (Gx.ap X22_5 X4.gx) _).ne (Gx.ap X20 X4.gx) _), ((((X8.ne N22__8 _).ne (Gx.ap X19 X8.gx) _).ne (Gx.ap X22_5 X8.gx) _).ne (Gx.ap X20 X8.gx) _), ((((X8_0.ne (Gx.ap X22.gx X8_0) _).ne (Gx.ap X19 X8_0) _).ne N22_5__8_0 _).ne (Gx.ap X20 X8_0) _), L8_0, ((((X8_3.ne (Gx.ap X22.gx X8_3) _).ne (Gx.ap X19 X8_3) _).ne N22_5__8_3 _).ne (Gx.ap X20 X8_3) _), L8_3, E1, E2, E4, E7, E8, E54, E55, E56, N19__20, N2__22, N2__4, N2__8, N22__4, N22__8, N22_5__8_0, N22_5__8_3, N4__8, N8_0__8_3, ((((hP.set X22.le (some (AObj.box 130 [(.sl (List.map Node.cl y67.2.p.nodes)), (.sl (List.map Input.cl y67.2.p.inputs)), (.sl (List.map Flow.cl y67.2.p.flows)), (.sl (List.map Output.cl y67.2.p.outputs)), (.mp i19), (.ow i22_5 (List.map ql.cl y67.2.calls)), (.mp i20), (.v (.int .i64 y67.2.error)), (.v (.int .i64 y67.2.e))]))).set L19 (some (AObj.map .s (mpF qI (Mp.get y67.2.flows)) (Mp.n y67.2.flows)))).set L22_5 (some (tkO 164 3 (List.length y67.2.calls)))).set L20 (some (AObj.map .s (mpF qI (Mp.get y67.2.at_)) (Mp.n y67.2.at_))))⟩
   rintro e s ⟨v58, v59, v60, v61, rfl, X19, L19, X2, X20, L20, X22, X22_5, L22_5, X4, X8, X8_0, L8_0, X8_3, L8_3, E1, E2, E4, E7, E8, E54, E55, E56, N19__20, N2__22, N2__4, N2__8, N22__4, N22__8, N22_5__8_0, N22_5__8_3, N4__8, N8_0__8_3, hP⟩
   (try dsimp only at hf54);refine w_x (cj2 E56 TT) ?_;obtain rfl := qa hf54;exact qT rfl ⟨_, _, _, _, _, rfl, X19, L19, X2, X20, L20, X22, X22_5, L22_5, X4, X8, X8_0, L8_0, X8_3, L8_3, E1, E2, E4, E7, E8, E54, E55, (xv (cj2 E56 TT)), N19__20, N2__22, N2__4, N2__8, N22__4, N22__8, N22_5__8_0, N22_5__8_3, N4__8, N8_0__8_3, hP⟩
  ·refine xf hb55 (qE (qM ?_));obtain rfl := qa hf54;refine qS rfl fun hr69 => ?_;obtain rfl := hr69;exact qK (qg ⟨_, _, _, _, rfl, X19, L19, X2, X20, L20, X22, X22_5, L22_5, X4, X8, X8_0, L8_0, X8_3, L8_3, E1, E2, E4, E7, E8, N19__20, N2__22, N2__4, N2__8, N22__4, N22__8, N22_5__8_0, N22_5__8_3, N4__8, N8_0__8_3, hP⟩)
 rintro e s ⟨v44, v45, v46, v47, rfl, X19, L19, X2, X20, L20, X22, X22_5, L22_5, X4, X8, X8_0, L8_0, X8_3, L8_3, E1, E2, E4, E7, E8, N19__20, N2__22, N2__4, N2__8, N22__4, N22__8, N22_5__8_0, N22_5__8_3, N4__8, N8_0__8_3, hP⟩
 (try dsimp only at h);refine qm (qe (w_x (cj3 E2 X2.get TT) ?_));refine qf ?_;obtain ⟨x70, h71, h⟩ := qb h;refine qk (fun e s => ∃ v72 v73 v74 v75, (v72, v73, v74, v75) = x70 ∧ C18_1 s i19 v72 ∧ σ.length ≤ i19 ∧ C18_7 σ s i2 a0 ∧ C18_1 s i20 v73 ∧ σ.length ≤ i20 ∧ C18_0 σ s i22 v74 i19 i22_5 v75 i20 ∧ C18_3 s i22_5 v75 ∧ σ.length ≤ i22_5 ∧ C18_6 σ s i4 ∧ C18_2 σ s i8 i8_0 v8 v7 i8_3 v9 ∧ C18_4 s i8_0 v8 ∧ σ.length ≤ i8_0 ∧ C18_5 s i8_3 v9 ∧ σ.length ≤ i8_3 ∧ eS e 1 Clock.cl a1 ∧ eP e 2 i2 ∧ eP e 4 i4 ∧ eP e 7 i22 ∧ eP e 8 i8 ∧ i19 ≠ i20 ∧ i2 ≠ i22 ∧ i2 ≠ i4 ∧ i2 ≠ i8 ∧ i22 ≠ i4 ∧ i22 ≠ i8 ∧ i22_5 ≠ i8_0 ∧ i22_5 ≠ i8_3 ∧ i4 ≠ i8 ∧ i8_0 ≠ i8_3 ∧ Pre σ s) ?_ ?_
 ·refine qo (qH h71 (fun v e s => ∃ v76 v77 v78 v79 v80, (v76, v77, v78, v79, v80) = v ∧ C18_1 s i19 v77 ∧ σ.length ≤ i19 ∧ C18_7 σ s i2 a0 ∧ C18_1 s i20 v78 ∧ σ.length ≤ i20 ∧ C18_0 σ s i22 v79 i19 i22_5 v80 i20 ∧ C18_3 s i22_5 v80 ∧ σ.length ≤ i22_5 ∧ C18_6 σ s i4 ∧ C18_2 σ s i8 i8_0 v8 v7 i8_3 v9 ∧ C18_4 s i8_0 v8 ∧ σ.length ≤ i8_0 ∧ C18_5 s i8_3 v9 ∧ σ.length ≤ i8_3 ∧ eS e 1 Clock.cl a1 ∧ eP e 2 i2 ∧ eP e 4 i4 ∧ eP e 7 i22 ∧ eP e 8 i8 ∧ eS e 76 Flow.cl a0.flows ∧ eL e 77 a0.flows ∧ eI e 78 v76 ∧ i19 ≠ i20 ∧ i2 ≠ i22 ∧ i2 ≠ i4 ∧ i2 ≠ i8 ∧ i22 ≠ i4 ∧ i22 ≠ i8 ∧ i22_5 ≠ i8_0 ∧ i22_5 ≠ i8_3 ∧ i4 ≠ i8 ∧ i8_0 ≠ i8_3 ∧ Pre σ s) ⟨_, WkE.refl _, _, _, _, _, _, rfl, X19, L19, X2, X20, L20, X22, X22_5, L22_5, X4, X8, X8_0, L8_0, X8_3, L8_3, E1, E2, E4, E7, E8, (xv TT), (xv TT), (xv TT), N19__20, N2__22, N2__4, N2__8, N22__4, N22__8, N22_5__8_0, N22_5__8_3, N4__8, N8_0__8_3, hP⟩ ?_)
  rintro v x81 e s hf82 ⟨v76, v77, v78, v79, v80, rfl, X19, L19, X2, X20, L20, X22, X22_5, L22_5, X4, X8, X8_0, L8_0, X8_3, L8_3, E1, E2, E4, E7, E8, E76, E77, E78, N19__20, N2__22, N2__4, N2__8, N22__4, N22__8, N22_5__8_0, N22_5__8_3, N4__8, N8_0__8_3, hP⟩
  unfold Zu at hf82;(try dsimp only at hf82);refine qe (w_x (cj3 E77 E78 TT) ?_);refine qf (qe ?_);rcases qj hf82 with ⟨hb83, hf82⟩ | ⟨hb83, hf82⟩
  ·refine xt hb83 (qn (qf ?_));obtain ⟨x84, h85, hf82⟩ := qb hf82;refine qk (fun e s => ∃ v86 v87 v88 v89, (v86, v87, v88, v89) = x84 ∧ C18_1 s i19 v86 ∧ σ.length ≤ i19 ∧ C18_7 σ s i2 a0 ∧ C18_1 s i20 v87 ∧ σ.length ≤ i20 ∧ C18_0 σ s i22 v88 i19 i22_5 v89 i20 ∧ C18_3 s i22_5 v89 ∧ σ.length ≤ i22_5 ∧ C18_6 σ s i4 ∧ C18_2 σ s i8 i8_0 v8 v7 i8_3 v9 ∧ C18_4 s i8_0 v8 ∧ σ.length ≤ i8_0 ∧ C18_5 s i8_3 v9 ∧ σ.length ≤ i8_3 ∧ eS e 1 Clock.cl a1 ∧ eP e 2 i2 ∧ eP e 4 i4 ∧ eP e 7 i22 ∧ eP e 8 i8 ∧ eS e 76 Flow.cl a0.flows ∧ eL e 77 a0.flows ∧ eI e 78 v76 ∧ i19 ≠ i20 ∧ i2 ≠ i22 ∧ i2 ≠ i4 ∧ i2 ≠ i8 ∧ i22 ≠ i4 ∧ i22 ≠ i8 ∧ i22_5 ≠ i8_0 ∧ i22_5 ≠ i8_3 ∧ i4 ≠ i8 ∧ i8_0 ≠ i8_3 ∧ Pre σ s) ?_ ?_
   ·refine qo ?_;obtain ⟨y90, h91, h85⟩ := qb h85;refine qk (fun e s => ∃ i14 : Nat, Bx σ s i14 41 (Flow.cl y90) ∧ C18_1 s i19 v77 ∧ σ.length ≤ i19 ∧ C18_7 σ s i2 a0 ∧ C18_1 s i20 v78 ∧ σ.length ≤ i20 ∧ C18_0 σ s i22 v79 i19 i22_5 v80 i20 ∧ C18_3 s i22_5 v80 ∧ σ.length ≤ i22_5 ∧ C18_6 σ s i4 ∧ C18_2 σ s i8 i8_0 v8 v7 i8_3 v9 ∧ C18_4 s i8_0 v8 ∧ σ.length ≤ i8_0 ∧ C18_5 s i8_3 v9 ∧ σ.length ≤ i8_3 ∧ eS e 1 Clock.cl a1 ∧ eP e 2 i2 ∧ eP e 4 i4 ∧ eP e 7 i22 ∧ eP e 8 i8 ∧ eP e 14 i14 ∧ eS e 76 Flow.cl a0.flows ∧ eL e 77 a0.flows ∧ eI e 78 v76 ∧ i14 ≠ i22 ∧ i14 ≠ i4 ∧ i14 ≠ i8 ∧ i19 ≠ i20 ∧ i2 ≠ i22 ∧ i2 ≠ i4 ∧ i2 ≠ i8 ∧ i22 ≠ i4 ∧ i22 ≠ i8 ∧ i22_5 ≠ i8_0 ∧ i22_5 ≠ i8_3 ∧ i4 ≠ i8 ∧ i8_0 ≠ i8_3 ∧ Pre σ s) ?_ ?_
    ·have R92 := qA (f := Flow.cl) (qh h91).2;have q44 := cj5 E76 E78 R92 (qh h91).1 TT;refine w_x q44 ?_;exact qg ⟨s.length, (Bx.new hP _ _), (X19.app _), L19, (X2.app _), (X20.app _), L20, (X22.app _), (X22_5.app _), L22_5, (X4.app _), (X8.app _), (X8_0.app _), L8_0, (X8_3.app _), L8_3, E1, E2, E4, E7, E8, (xv q44), E76, E77, E78, (Ne.symm (Nat.ne_of_lt X22.lt)), (Ne.symm (Nat.ne_of_lt X4.lt)), (Ne.symm (Nat.ne_of_lt X8.lt)), N19__20, N2__22, N2__4, N2__8, N22__4, N22__8, N22_5__8_0, N22_5__8_3, N4__8, N8_0__8_3, (hP.app _)⟩
    rintro e s ⟨i14, X14, X19, L19, X2, X20, L20, X22, X22_5, L22_5, X4, X8, X8_0, L8_0, X8_3, L8_3, E1, E2, E4, E7, E8, E14, E76, E77, E78, N14__22, N14__4, N14__8, N19__20, N2__22, N2__4, N2__8, N22__4, N22__8, N22_5__8_0, N22_5__8_3, N4__8, N8_0__8_3, hP⟩
    obtain ⟨w95, h96, h85⟩ := qb h85;refine qk (fun e s => Bx σ s i14 41 (Flow.cl y90) ∧ C18_1 s i19 v77 ∧ σ.length ≤ i19 ∧ C18_7 σ s i2 a0 ∧ C18_1 s i20 v78 ∧ σ.length ≤ i20 ∧ C18_0 σ s i22 v79 i19 i22_5 v80 i20 ∧ C18_3 s i22_5 v80 ∧ σ.length ≤ i22_5 ∧ C18_6 σ s i4 ∧ C18_2 σ s i8 i8_0 v8 v7 i8_3 v9 ∧ C18_4 s i8_0 v8 ∧ σ.length ≤ i8_0 ∧ C18_5 s i8_3 v9 ∧ σ.length ≤ i8_3 ∧ eS e 1 Clock.cl a1 ∧ eP e 2 i2 ∧ eP e 4 i4 ∧ eP e 7 i22 ∧ eP e 8 i8 ∧ eP e 14 i14 ∧ eS e 76 Flow.cl a0.flows ∧ eL e 77 a0.flows ∧ eI e 78 v76 ∧ eB e 94 ((decide (v79.e = (0 : Int))) && w95) ∧ i14 ≠ i22 ∧ i14 ≠ i4 ∧ i14 ≠ i8 ∧ i19 ≠ i20 ∧ i2 ≠ i22 ∧ i2 ≠ i4 ∧ i2 ≠ i8 ∧ i22 ≠ i4 ∧ i22 ≠ i8 ∧ i22_5 ≠ i8_0 ∧ i22_5 ≠ i8_3 ∧ i4 ≠ i8 ∧ i8_0 ≠ i8_3 ∧ Pre σ s) ?_ ?_
    ·cases hb97 : (decide (v79.e = (0 : Int)))
     ·replace h96 := qU (by simp only [hb97, Bool.or_true, Bool.true_or, Bool.or_false, Bool.false_or, Bool.and_true, Bool.true_and, Bool.and_false, Bool.false_and, Bool.not_true, Bool.not_false, cond_true, cond_false]) h96;obtain rfl := qa h96;have q45 := cj9 E7 E14 X14.get X19.get X20.get X22.get X22_5.get hb97 TT;refine w_x q45 ?_;exact qg ⟨X14, X19, L19, X2, X20, L20, X22, X22_5, L22_5, X4, X8, X8_0, L8_0, X8_3, L8_3, E1, E2, E4, E7, E8, E14, E76, E77, E78, (xv q45), N14__22, N14__4, N14__8, N19__20, N2__22, N2__4, N2__8, N22__4, N22__8, N22_5__8_0, N22_5__8_3, N4__8, N8_0__8_3, hP⟩
     ·replace h96 := qN (by simp only [hb97, Bool.or_true, Bool.true_or, Bool.or_false, Bool.false_or, Bool.and_true, Bool.true_and, Bool.and_false, Bool.false_and, Bool.not_true, Bool.not_false, cond_true, cond_false]) h96;obtain ⟨y93, h94, h96⟩ := qb h96;obtain rfl := qa h96;have q46 := cj9 E7 E14 X14.get X19.get X20.get X22.get X22_5.get hb97 TT;refine w_x q46 ?_;refine S1 _ _ _ _ _ h94 _ _ _ _ _ _ X22.gx X19 X22_5 X20 ?_;refine w_y q46 ?_;exact qg ⟨X14, X19, L19, X2, X20, L20, X22, X22_5, L22_5, X4, X8, X8_0, L8_0, X8_3, L8_3, E1, E2, E4, E7, E8, E14, E76, E77, E78, (xv q46), N14__22, N14__4, N14__8, N19__20, N2__22, N2__4, N2__8, N22__4, N22__8, N22_5__8_0, N22_5__8_3, N4__8, N8_0__8_3, hP⟩
    rintro e s ⟨X14, X19, L19, X2, X20, L20, X22, X22_5, L22_5, X4, X8, X8_0, L8_0, X8_3, L8_3, E1, E2, E4, E7, E8, E14, E76, E77, E78, E94, N14__22, N14__4, N14__8, N19__20, N2__22, N2__4, N2__8, N22__4, N22__8, N22_5__8_0, N22_5__8_3, N4__8, N8_0__8_3, hP⟩
    obtain ⟨x98, h99, h85⟩ := qb h85;refine Qd (fun e s => ∃ v100 v101 v102 v103, (v100, v101, v102, v103) = x98 ∧ C18_1 s i19 v100 ∧ σ.length ≤ i19 ∧ C18_7 σ s i2 a0 ∧ C18_1 s i20 v101 ∧ σ.length ≤ i20 ∧ C18_0 σ s i22 v102 i19 i22_5 v103 i20 ∧ C18_3 s i22_5 v103 ∧ σ.length ≤ i22_5 ∧ C18_6 σ s i4 ∧ C18_2 σ s i8 i8_0 v8 v7 i8_3 v9 ∧ C18_4 s i8_0 v8 ∧ σ.length ≤ i8_0 ∧ C18_5 s i8_3 v9 ∧ σ.length ≤ i8_3 ∧ eS e 1 Clock.cl a1 ∧ eP e 2 i2 ∧ eP e 4 i4 ∧ eP e 7 i22 ∧ eP e 8 i8 ∧ eS e 76 Flow.cl a0.flows ∧ eL e 77 a0.flows ∧ eI e 78 v76 ∧ i19 ≠ i20 ∧ i2 ≠ i22 ∧ i2 ≠ i4 ∧ i2 ≠ i8 ∧ i22 ≠ i4 ∧ i22 ≠ i8 ∧ i22_5 ≠ i8_0 ∧ i22_5 ≠ i8_3 ∧ i4 ≠ i8 ∧ i8_0 ≠ i8_3 ∧ Pre σ s) ?_ ?_
    ·rcases qj h99 with ⟨hb104, h99⟩ | ⟨hb104, h99⟩
     ·refine xt (cj2 E94 hb104) ?_;have q47 := Gx.ap X22.gx X19;have q48 := Gx.ap X22.gx X20;have q49 := Gx.ap X22.gx X22_5;have q50 := X22.same 130 [(.sl (List.map Node.cl v79.p.nodes)), (.sl (List.map Input.cl v79.p.inputs)), (.sl (List.map Flow.cl v79.p.flows)), (.sl (List.map Output.cl v79.p.outputs)), (.mp i19), (.ow i22_5 (List.map ql.cl v80)), (.mp i20), (.v (.int .i64 y90.at_)), (.v (.int .i64 v79.e))];have q51 := X20.ne q48 (some (AObj.box 130 [(.sl (List.map Node.cl v79.p.nodes)), (.sl (List.map Input.cl v79.p.inputs)), (.sl (List.map Flow.cl v79.p.flows)), (.sl (List.map Output.cl v79.p.outputs)), (.mp i19), (.ow i22_5 (List.map ql.cl v80)), (.mp i20), (.v (.int .i64 y90.at_)), (.v (.int .i64 v79.e))]));have q52 := X19.ne q47 (some (AObj.box 130 [(.sl (List.map Node.cl v79.p.nodes)), (.sl (List.map Input.cl v79.p.inputs)), (.sl (List.map Flow.cl v79.p.flows)), (.sl (List.map Output.cl v79.p.outputs)), (.mp i19), (.ow i22_5 (List.map ql.cl v80)), (.mp i20), (.v (.int .i64 y90.at_)), (.v (.int .i64 v79.e))]));have q53 := X22_5.ne q49 (some (AObj.box 130 [(.sl (List.map Node.cl v79.p.nodes)), (.sl (List.map Input.cl v79.p.inputs)), (.sl (List.map Flow.cl v79.p.flows)), (.sl (List.map Output.cl v79.p.outputs)), (.mp i19), (.ow i22_5 (List.map ql.cl v80)), (.mp i20), (.v (.int .i64 y90.at_)), (.v (.int .i64 v79.e))]));have q54 := X14.ne (Ne.symm N14__22) (some (AObj.box 130 [(.sl (List.map Node.cl v79.p.nodes)), (.sl (List.map Input.cl v79.p.inputs)), (.sl (List.map Flow.cl v79.p.flows)), (.sl (List.map Output.cl v79.p.outputs)), (.mp i19), (.ow i22_5 (List.map ql.cl v80)), (.mp i20), (.v (.int .i64 y90.at_)), (.v (.int .i64 v79.e))]));refine w_x (cj18 E7 E14 X14.get X19.get X20.get X22.get X22_5.get q54.get q52.get q51.get q50.get q53.get (q54.ne (Ne.symm N14__22) (some (AObj.box 130 [(.sl (List.map Node.cl v79.p.nodes)), (.sl (List.map Input.cl v79.p.inputs)), (.sl (List.map Flow.cl v79.p.flows)), (.sl (List.map Output.cl v79.p.outputs)), (.mp i19), (.ow i22_5 (List.map ql.cl v80)), (.mp i20), (.v (.int .i64 y90.at_)), (.v (.int .i64 (8 : Int)))]))).get (q52.ne q47 (some (AObj.box 130 [(.sl (List.map Node.cl v79.p.nodes)), (.sl (List.map Input.cl v79.p.inputs)), (.sl (List.map Flow.cl v79.p.flows)), (.sl (List.map Output.cl v79.p.outputs)), (.mp i19), (.ow i22_5 (List.map ql.cl v80)), (.mp i20), (.v (.int .i64 y90.at_)), (.v (.int .i64 (8 : Int)))]))).get (q51.ne q48 (some (AObj.box 130 [(.sl (List.map Node.cl v79.p.nodes)), (.sl (List.map Input.cl v79.p.inputs)), (.sl (List.map Flow.cl v79.p.flows)), (.sl (List.map Output.cl v79.p.outputs)), (.mp i19), (.ow i22_5 (List.map ql.cl v80)), (.mp i20), (.v (.int .i64 y90.at_)), (.v (.int .i64 (8 : Int)))]))).get (q50.same 130 [(.sl (List.map Node.cl v79.p.nodes)), (.sl (List.map Input.cl v79.p.inputs)), (.sl (List.map Flow.cl v79.p.flows)), (.sl (List.map Output.cl v79.p.outputs)), (.mp i19), (.ow i22_5 (List.map ql.cl v80)), (.mp i20), (.v (.int .i64 y90.at_)), (.v (.int .i64 (8 : Int)))]).get (q53.ne q49 (some (AObj.box 130 [(.sl (List.map Node.cl v79.p.nodes)), (.sl (List.map Input.cl v79.p.inputs)), (.sl (List.map Flow.cl v79.p.flows)), (.sl (List.map Output.cl v79.p.outputs)), (.mp i19), (.ow i22_5 (List.map ql.cl v80)), (.mp i20), (.v (.int .i64 y90.at_)), (.v (.int .i64 (8 : Int)))]))).get TT) ?_;obtain rfl := qa h99;exact zr ⟨_, _, _, _, rfl, (q52.ne q47 _), L19, ((X2.ne (Ne.symm N2__22) _).ne (Ne.symm N2__22) _), (q51.ne q48 _), L20, (q50.same _ _), (q53.ne q49 _), L22_5, ((X4.ne N22__4 _).ne N22__4 _), ((X8.ne N22__8 _).ne N22__8 _), ((X8_0.ne (Gx.ap X22.gx X8_0) _).ne (Gx.ap X22.gx X8_0) _), L8_0, ((X8_3.ne (Gx.ap X22.gx X8_3) _).ne (Gx.ap X22.gx X8_3) _), L8_3, E1, E2, E4, E7, E8, E76, E77, E78, N19__20, N2__22, N2__4, N2__8, N22__4, N22__8, N22_5__8_0, N22_5__8_3, N4__8, N8_0__8_3, ((hP.set X22.le (some (AObj.box 130 [(.sl (List.map Node.cl v79.p.nodes)), (.sl (List.map Input.cl v79.p.inputs)), (.sl (List.map Flow.cl v79.p.flows)), (.sl (List.map Output.cl v79.p.outputs)), (.mp i19), (.ow i22_5 (List.map ql.cl v80)), (.mp i20), (.v (.int .i64 y90.at_)), (.v (.int .i64 v79.e))]))).set q50.le (some (AObj.box 130 [(.sl (List.map Node.cl v79.p.nodes)), (.sl (List.map Input.cl v79.p.inputs)), (.sl (List.map Flow.cl v79.p.flows)), (.sl (List.map Output.cl v79.p.outputs)), (.mp i19), (.ow i22_5 (List.map ql.cl v80)), (.mp i20), (.v (.int .i64 y90.at_)), (.v (.int .i64 (8 : Int)))])))⟩
     ·refine xf (cj2 E94 hb104) (qn ?_);obtain rfl := qa h99;exact zr ⟨_, _, _, _, rfl, X19, L19, X2, X20, L20, X22, X22_5, L22_5, X4, X8, X8_0, L8_0, X8_3, L8_3, E1, E2, E4, E7, E8, E76, E77, E78, N19__20, N2__22, N2__4, N2__8, N22__4, N22__8, N22_5__8_0, N22_5__8_3, N4__8, N8_0__8_3, hP⟩
    rintro e s ⟨v100, v101, v102, v103, rfl, X19, L19, X2, X20, L20, X22, X22_5, L22_5, X4, X8, X8_0, L8_0, X8_3, L8_3, E1, E2, E4, E7, E8, E76, E77, E78, N19__20, N2__22, N2__4, N2__8, N22__4, N22__8, N22_5__8_0, N22_5__8_3, N4__8, N8_0__8_3, hP⟩
    (try dsimp only at h85);refine qP ?_;obtain rfl := qa h85;exact qg ⟨_, _, _, _, rfl, X19, L19, X2, X20, L20, X22, X22_5, L22_5, X4, X8, X8_0, L8_0, X8_3, L8_3, E1, E2, E4, E7, E8, E76, E77, E78, N19__20, N2__22, N2__4, N2__8, N22__4, N22__8, N22_5__8_0, N22_5__8_3, N4__8, N8_0__8_3, hP⟩
   rintro e s ⟨v86, v87, v88, v89, rfl, X19, L19, X2, X20, L20, X22, X22_5, L22_5, X4, X8, X8_0, L8_0, X8_3, L8_3, E1, E2, E4, E7, E8, E76, E77, E78, N19__20, N2__22, N2__4, N2__8, N22__4, N22__8, N22_5__8_0, N22_5__8_3, N4__8, N8_0__8_3, hP⟩
   (try dsimp only at hf82);refine w_x (cj2 E78 TT) ?_;obtain rfl := qa hf82;exact qT rfl ⟨_, _, _, _, _, rfl, X19, L19, X2, X20, L20, X22, X22_5, L22_5, X4, X8, X8_0, L8_0, X8_3, L8_3, E1, E2, E4, E7, E8, E76, E77, (xv (cj2 E78 TT)), N19__20, N2__22, N2__4, N2__8, N22__4, N22__8, N22_5__8_0, N22_5__8_3, N4__8, N8_0__8_3, hP⟩
  ·refine xf hb83 (qE (qM ?_));obtain rfl := qa hf82;refine qS rfl fun hr105 => ?_;obtain rfl := hr105;exact qK (qg ⟨_, _, _, _, rfl, X19, L19, X2, X20, L20, X22, X22_5, L22_5, X4, X8, X8_0, L8_0, X8_3, L8_3, E1, E2, E4, E7, E8, N19__20, N2__22, N2__4, N2__8, N22__4, N22__8, N22_5__8_0, N22_5__8_3, N4__8, N8_0__8_3, hP⟩)
 rintro e s ⟨v72, v73, v74, v75, rfl, X19, L19, X2, X20, L20, X22, X22_5, L22_5, X4, X8, X8_0, L8_0, X8_3, L8_3, E1, E2, E4, E7, E8, N19__20, N2__22, N2__4, N2__8, N22__4, N22__8, N22_5__8_0, N22_5__8_3, N4__8, N8_0__8_3, hP⟩
 (try dsimp only at h);refine qm (qe (w_x (cj6 E7 X19.get X20.get X22.get X22_5.get TT) ?_));refine qf (qe ?_);rcases qj h with ⟨hb106, h⟩ | ⟨hb106, h⟩
 ·refine xt hb106 (qk (fun e s => C18_6 σ s i4 ∧ eP e 4 i4 ∧ eI e 5 v74.error ∧ eI e 6 v74.e ∧ Pre σ s) ?_ ?_)
  ·have q55 := Gx.ap X4.gx X19;have q56 := Gx.ap X4.gx X20;have q57 := hget X19.get q55;have q58 := hget X20.get q56;have q59 := Gx.ap X4.gx X22_5;have q60 := hget X22_5.get q59;have q61 := hget X22.get (Ne.symm N22__4);have q62 := X4.same 49 [.e0, .e0, .e0, .e0];have q63 := X19.ne q55 (some (AObj.box 49 [.e0, .e0, .e0, .e0]));have q64 := X20.ne q56 (some (AObj.box 49 [.e0, .e0, .e0, .e0]));have q65 := X22_5.ne q59 (some (AObj.box 49 [.e0, .e0, .e0, .e0]));have q66 := X22.ne (Ne.symm N22__4) (some (AObj.box 49 [.e0, .e0, .e0, .e0]));have q67 := cj17 E4 E7 q57 q58 q61 q60 X19.get X20.get X22.get X22_5.get X4.get q63.get q64.get q66.get q65.get q62.get TT;refine w_xh i4 11 0 q67 ?_;refine qY q67 ?_;exact qg ⟨q62, E4, (xv q67), (xv q67), (hP.set X4.le (some (AObj.box 49 [.e0, .e0, .e0, .e0])))⟩
  rintro e s ⟨X4, E4, E5, E6, hP⟩
  refine qp (qW ?_);obtain rfl := qa h;exact qr (fun _ => rfl) (xr (rs := #[.cell 4 49, .tmp 5, .tmp 6]) (cj5 X4.get E4 E5 E6 TT)) hP (Wk.tul (.cons (Wk.agl (.cons .e0 (.cons .e0 (.cons .e0 (.cons .e0 .nil))))) (.cons (.refl _) (.cons (.refl _) .nil)))) (.tu (CnL.cons (.ag (CnL.cons Cn.sl0 (CnL.cons Cn.sl0 (CnL.cons Cn.sl0 (CnL.cons Cn.sl0 CnL.nil))))) (CnL.cons (.v _) (CnL.cons (.v _) CnL.nil)))) hK
 ·refine xf hb106 (qn (qf ?_));obtain ⟨y107, h108, h⟩ := qb h;refine qk (fun e s => C18_1 s i19 v72 ∧ σ.length ≤ i19 ∧ C18_7 σ s i2 a0 ∧ C18_1 s i20 v73 ∧ σ.length ≤ i20 ∧ C18_0 σ s i22 v74 i19 i22_5 v75 i20 ∧ C18_3 s i22_5 v75 ∧ σ.length ≤ i22_5 ∧ C18_6 σ s i4 ∧ Bx σ s i8 49 [(.ow i8_0 (List.map Clock.cl v8)), (.sl (List.map Node.cl v7.nodes)), (.sl (List.map Task.cl y107)), (.ow i8_3 (List.map Tell.cl v9))] ∧ C18_4 s i8_0 v8 ∧ σ.length ≤ i8_0 ∧ C18_5 s i8_3 v9 ∧ σ.length ≤ i8_3 ∧ eS e 1 Clock.cl a1 ∧ eP e 2 i2 ∧ eP e 4 i4 ∧ eP e 7 i22 ∧ eP e 8 i8 ∧ i19 ≠ i20 ∧ i2 ≠ i22 ∧ i2 ≠ i4 ∧ i2 ≠ i8 ∧ i22 ≠ i4 ∧ i22 ≠ i8 ∧ i22_5 ≠ i8_0 ∧ i22_5 ≠ i8_3 ∧ i4 ≠ i8 ∧ i8_0 ≠ i8_3 ∧ Pre σ s) ?_ ?_
  ·have q68 := Gx.ap X8.gx X20;have q69 := Gx.ap X8.gx X19;have q70 := Gx.ap X8.gx X8_3;have q71 := Gx.ap X8.gx X8_0;have q72 := Gx.ap X8.gx X22_5;have q73 := cj17 E7 E8 X19.get X20.get X22.get X22_5.get X8.get X8_0.get X8_3.get (X19.nea q69) (X20.nea q68) (X22.nea (Ne.symm N22__8)) (X22_5.nea q72) X8.samea (X8_0.nea q71) (X8_3.nea q70) TT;refine w_x q73 ?_;refine S2 _ _ h108 _ _ _ _ _ _ X22.gx X19 X22_5 X20 ?_;refine w_y q73 ?_;exact qg ⟨(X19.ne q69 _), L19, (X2.ne (Ne.symm N2__8) _), (X20.ne q68 _), L20, (X22.ne (Ne.symm N22__8) _), (X22_5.ne q72 _), L22_5, (X4.ne (Ne.symm N4__8) _), (X8.same _ _), (X8_0.ne q71 _), L8_0, (X8_3.ne q70 _), L8_3, E1, E2, E4, E7, E8, N19__20, N2__22, N2__4, N2__8, N22__4, N22__8, N22_5__8_0, N22_5__8_3, N4__8, N8_0__8_3, (hP.set X8.le (some (AObj.box 49 [(.ow i8_0 (List.map Clock.cl v8)), (.sl (List.map Node.cl v7.nodes)), (.sl (List.map Task.cl y107)), (.ow i8_3 (List.map Tell.cl v9))])))⟩
  rintro e s ⟨X19, L19, X2, X20, L20, X22, X22_5, L22_5, X4, X8, X8_0, L8_0, X8_3, L8_3, E1, E2, E4, E7, E8, N19__20, N2__22, N2__4, N2__8, N22__4, N22__8, N22_5__8_0, N22_5__8_3, N4__8, N8_0__8_3, hP⟩
  refine qm (qe (w_x (cj3 E2 X2.get TT) ?_));refine qf ?_;obtain ⟨x109, h110, h⟩ := qb h;refine qk (fun e s => ∃ v111 v112 v113, (v111, v112, v113) = x109 ∧ C18_6 σ s i4 ∧ C18_2 σ s i8 i8_0 v112 v111 i8_3 v113 ∧ C18_4 s i8_0 v112 ∧ σ.length ≤ i8_0 ∧ C18_5 s i8_3 v113 ∧ σ.length ≤ i8_3 ∧ eP e 4 i4 ∧ eP e 8 i8 ∧ i4 ≠ i8 ∧ i8_0 ≠ i8_3 ∧ Pre σ s) ?_ ?_
  ·refine qo (qH h110 (fun v e s => ∃ v114 v115 v116 v117, (v114, v115, v116, v117) = v ∧ C18_1 s i19 v72 ∧ σ.length ≤ i19 ∧ C18_7 σ s i2 a0 ∧ C18_1 s i20 v73 ∧ σ.length ≤ i20 ∧ C18_0 σ s i22 v74 i19 i22_5 v75 i20 ∧ C18_3 s i22_5 v75 ∧ σ.length ≤ i22_5 ∧ C18_6 σ s i4 ∧ C18_2 σ s i8 i8_0 v116 v115 i8_3 v117 ∧ C18_4 s i8_0 v116 ∧ σ.length ≤ i8_0 ∧ C18_5 s i8_3 v117 ∧ σ.length ≤ i8_3 ∧ eS e 1 Clock.cl a1 ∧ eP e 2 i2 ∧ eP e 4 i4 ∧ eP e 7 i22 ∧ eP e 8 i8 ∧ eS e 122 Output.cl a0.outputs ∧ eL e 123 a0.outputs ∧ eI e 124 v114 ∧ i19 ≠ i20 ∧ i2 ≠ i22 ∧ i2 ≠ i4 ∧ i2 ≠ i8 ∧ i22 ≠ i4 ∧ i22 ≠ i8 ∧ i22_5 ≠ i8_0 ∧ i22_5 ≠ i8_3 ∧ i4 ≠ i8 ∧ i8_0 ≠ i8_3 ∧ Pre σ s) ⟨_, WkE.refl _, _, _, _, _, rfl, X19, L19, X2, X20, L20, X22, X22_5, L22_5, X4, X8, X8_0, L8_0, X8_3, L8_3, E1, E2, E4, E7, E8, (xv TT), (xv TT), (xv TT), N19__20, N2__22, N2__4, N2__8, N22__4, N22__8, N22_5__8_0, N22_5__8_3, N4__8, N8_0__8_3, hP⟩ ?_)
   rintro v x118 e s hf119 ⟨v114, v115, v116, v117, rfl, X19, L19, X2, X20, L20, X22, X22_5, L22_5, X4, X8, X8_0, L8_0, X8_3, L8_3, E1, E2, E4, E7, E8, E122, E123, E124, N19__20, N2__22, N2__4, N2__8, N22__4, N22__8, N22_5__8_0, N22_5__8_3, N4__8, N8_0__8_3, hP⟩
   unfold Zt at hf119;(try dsimp only at hf119);refine qe (w_x (cj3 E123 E124 TT) ?_);refine qf (qe ?_);rcases qj hf119 with ⟨hb120, hf119⟩ | ⟨hb120, hf119⟩
   ·refine xt hb120 (qn (qf ?_));obtain ⟨x121, h122, hf119⟩ := qb hf119;refine qk (fun e s => ∃ v123 v124 v125, (v123, v124, v125) = x121 ∧ C18_1 s i19 v72 ∧ σ.length ≤ i19 ∧ C18_7 σ s i2 a0 ∧ C18_1 s i20 v73 ∧ σ.length ≤ i20 ∧ C18_0 σ s i22 v74 i19 i22_5 v75 i20 ∧ C18_3 s i22_5 v75 ∧ σ.length ≤ i22_5 ∧ C18_6 σ s i4 ∧ C18_2 σ s i8 i8_0 v124 v123 i8_3 v125 ∧ C18_4 s i8_0 v124 ∧ σ.length ≤ i8_0 ∧ C18_5 s i8_3 v125 ∧ σ.length ≤ i8_3 ∧ eS e 1 Clock.cl a1 ∧ eP e 2 i2 ∧ eP e 4 i4 ∧ eP e 7 i22 ∧ eP e 8 i8 ∧ eS e 122 Output.cl a0.outputs ∧ eL e 123 a0.outputs ∧ eI e 124 v114 ∧ i19 ≠ i20 ∧ i2 ≠ i22 ∧ i2 ≠ i4 ∧ i2 ≠ i8 ∧ i22 ≠ i4 ∧ i22 ≠ i8 ∧ i22_5 ≠ i8_0 ∧ i22_5 ≠ i8_3 ∧ i4 ≠ i8 ∧ i8_0 ≠ i8_3 ∧ Pre σ s) ?_ ?_
    ·refine qo ?_;obtain ⟨y126, h127, h122⟩ := qb h122;refine qk (fun e s => ∃ i16 : Nat, Bx σ s i16 65 (Output.cl y126) ∧ C18_1 s i19 v72 ∧ σ.length ≤ i19 ∧ C18_7 σ s i2 a0 ∧ C18_1 s i20 v73 ∧ σ.length ≤ i20 ∧ C18_0 σ s i22 v74 i19 i22_5 v75 i20 ∧ C18_3 s i22_5 v75 ∧ σ.length ≤ i22_5 ∧ C18_6 σ s i4 ∧ C18_2 σ s i8 i8_0 v116 v115 i8_3 v117 ∧ C18_4 s i8_0 v116 ∧ σ.length ≤ i8_0 ∧ C18_5 s i8_3 v117 ∧ σ.length ≤ i8_3 ∧ eS e 1 Clock.cl a1 ∧ eP e 2 i2 ∧ eP e 4 i4 ∧ eP e 7 i22 ∧ eP e 8 i8 ∧ eP e 16 i16 ∧ eS e 122 Output.cl a0.outputs ∧ eL e 123 a0.outputs ∧ eI e 124 v114 ∧ i16 ≠ i22 ∧ i16 ≠ i4 ∧ i16 ≠ i8 ∧ i19 ≠ i20 ∧ i2 ≠ i22 ∧ i2 ≠ i4 ∧ i2 ≠ i8 ∧ i22 ≠ i4 ∧ i22 ≠ i8 ∧ i22_5 ≠ i8_0 ∧ i22_5 ≠ i8_3 ∧ i4 ≠ i8 ∧ i8_0 ≠ i8_3 ∧ Pre σ s) ?_ ?_
     ·have R128 := qA (f := Output.cl) (qh h127).2;have q74 := cj5 E122 E124 R128 (qh h127).1 TT;refine w_x q74 ?_;exact qg ⟨s.length, (Bx.new hP _ _), (X19.app _), L19, (X2.app _), (X20.app _), L20, (X22.app _), (X22_5.app _), L22_5, (X4.app _), (X8.app _), (X8_0.app _), L8_0, (X8_3.app _), L8_3, E1, E2, E4, E7, E8, (xv q74), E122, E123, E124, (Ne.symm (Nat.ne_of_lt X22.lt)), (Ne.symm (Nat.ne_of_lt X4.lt)), (Ne.symm (Nat.ne_of_lt X8.lt)), N19__20, N2__22, N2__4, N2__8, N22__4, N22__8, N22_5__8_0, N22_5__8_3, N4__8, N8_0__8_3, (hP.app _)⟩
     rintro e s ⟨i16, X16, X19, L19, X2, X20, L20, X22, X22_5, L22_5, X4, X8, X8_0, L8_0, X8_3, L8_3, E1, E2, E4, E7, E8, E16, E122, E123, E124, N16__22, N16__4, N16__8, N19__20, N2__22, N2__4, N2__8, N22__4, N22__8, N22_5__8_0, N22_5__8_3, N4__8, N8_0__8_3, hP⟩
     refine qe ?_;have R129 : Option.getD (Option.map qI (Mp.get v72 y126.flow)) (.v (.int .i64 (0 : Int))) = (.v (.int .i64 (Option.getD (Mp.get v72 y126.flow) (0 : Int)))) := by cases Mp.get v72 y126.flow <;> rfl
     refine Jb (cj9 E7 E16 X16.get X19.get X20.get X22.get X22_5.get R129 TT) ?_;refine qf ?_;obtain ⟨y130, h131, h122⟩ := qb h122;obtain ⟨y132, h133, h122⟩ := qb h122;obtain ⟨y134, h135, h122⟩ := qb h122;obtain ⟨y136, h137, h122⟩ := qb h122;have R139 := qA (f := Clock.cl) (qh h131).2;have R140 := qA (f := Flow.cl) (qh h133).2;have hv141 : (List.map Tell.cl v117) ++ ([[(.v (.int .i64 y130.period)), (.v (.int .i64 y130.phase)), (.v (.int .i64 y134.src)), (.sl (List.map Op.cl y134.ops)), (.v (.int .i64 y126.deadline))]] : List (List PV)) = (List.map Tell.cl y136) := by rw [← (qO h137).2, List.map_append]; rfl
     have hb142 : ((List.map Tell.cl v117).length + ([[(.v (.int .i64 y130.period)), (.v (.int .i64 y130.phase)), (.v (.int .i64 y134.src)), (.sl (List.map Op.cl y134.ops)), (.v (.int .i64 y126.deadline))]] : List (List PV)).length) * 56 ≤ 140737488355328 ∧ (List.map Tell.cl v117).length + ([[(.v (.int .i64 y130.period)), (.v (.int .i64 y130.phase)), (.v (.int .i64 y134.src)), (.sl (List.map Op.cl y134.ops)), (.v (.int .i64 y126.deadline))]] : List (List PV)).length ≤ 140737488355328 := by simpa [Expr.rlen] using (qO h137).1
     have ha143 := qqa (i := i8_3) (s := s) (n := List.length v117) (k := List.length y136) (x := (.sl [[(.v (.int .i64 y130.period)), (.v (.int .i64 y130.phase)), (.v (.int .i64 y134.src)), (.sl (List.map Op.cl y134.ops)), (.v (.int .i64 y126.deadline))]])) (rows := (List.map Tell.cl v117)) (ns := ([[(.v (.int .i64 y130.period)), (.v (.int .i64 y130.phase)), (.v (.int .i64 y134.src)), (.sl (List.map Op.cl y134.ops)), (.v (.int .i64 y126.deadline))]] : List (List PV))) (vr := (List.map Tell.cl y136)) T_47 T_73 X8_3.get (by simp [Expr.rlen]) (zt (f := Tell.cl) (n := 5) (fun _ => rfl) _) (JK rfl) (by simp) (by decide) hb142 hv141 (by simp [Expr.rlen]) rfl;have q75 := Gx.ap X8_3 X19;have q76 := Gx.ap X8_3 X20;have q77 := Gx.ap X8.gx X20;have q78 := Gx.ap X8.gx X19;have q79 := Gx.ap X8.gx X8_0;have q80 := Gx.ap X8_3 X8.gx;have q81 := Gx.ap X8.gx X8_3;have q82 := Gx.ap X8_3 X2.gx;have q83 := Gx.ap X8_3 X22.gx;have q84 := Gx.ap X8.gx X22_5;have q85 := Gx.ap X8_3 X16.gx;have q86 := Gx.same X8_3 (tkO 73 5 (List.length y136));have q87 := X2.ne q82 (some (tkO 73 5 (List.length y136)));have q88 := X8.ne q80 (some (tkO 73 5 (List.length y136)));have q89 := X22.ne q83 (some (tkO 73 5 (List.length y136)));have q90 := X20.ne q76 (some (tkO 73 5 (List.length y136)));have q91 := X16.ne q85 (some (tkO 73 5 (List.length y136)));have q92 := X19.ne q75 (some (tkO 73 5 (List.length y136)));have q93 := X8_0.ne (Ne.symm N8_0__8_3) (some (tkO 73 5 (List.length y136)));have q94 := X22_5.ne (Ne.symm N22_5__8_3) (some (tkO 73 5 (List.length y136)));have q95 := QJ ha143 q91.get q92.get q87.get q90.get q89.get q94.get q88.get q93.get q86.get (q91.ne (Ne.symm N16__8) (some (AObj.box 49 [(.ow i8_0 (List.map Clock.cl v116)), (.sl (List.map Node.cl v115.nodes)), (.sl (List.map Task.cl v115.tasks)), (.ow i8_3 (List.map Tell.cl y136))]))).get (q92.ne q78 (some (AObj.box 49 [(.ow i8_0 (List.map Clock.cl v116)), (.sl (List.map Node.cl v115.nodes)), (.sl (List.map Task.cl v115.tasks)), (.ow i8_3 (List.map Tell.cl y136))]))).get (q87.ne (Ne.symm N2__8) (some (AObj.box 49 [(.ow i8_0 (List.map Clock.cl v116)), (.sl (List.map Node.cl v115.nodes)), (.sl (List.map Task.cl v115.tasks)), (.ow i8_3 (List.map Tell.cl y136))]))).get (q90.ne q77 (some (AObj.box 49 [(.ow i8_0 (List.map Clock.cl v116)), (.sl (List.map Node.cl v115.nodes)), (.sl (List.map Task.cl v115.tasks)), (.ow i8_3 (List.map Tell.cl y136))]))).get (q89.ne (Ne.symm N22__8) (some (AObj.box 49 [(.ow i8_0 (List.map Clock.cl v116)), (.sl (List.map Node.cl v115.nodes)), (.sl (List.map Task.cl v115.tasks)), (.ow i8_3 (List.map Tell.cl y136))]))).get (q94.ne q84 (some (AObj.box 49 [(.ow i8_0 (List.map Clock.cl v116)), (.sl (List.map Node.cl v115.nodes)), (.sl (List.map Task.cl v115.tasks)), (.ow i8_3 (List.map Tell.cl y136))]))).get (q88.same 49 [(.ow i8_0 (List.map Clock.cl v116)), (.sl (List.map Node.cl v115.nodes)), (.sl (List.map Task.cl v115.tasks)), (.ow i8_3 (List.map Tell.cl y136))]).get (q93.ne q79 (some (AObj.box 49 [(.ow i8_0 (List.map Clock.cl v116)), (.sl (List.map Node.cl v115.nodes)), (.sl (List.map Task.cl v115.tasks)), (.ow i8_3 (List.map Tell.cl y136))]))).get (q86.ne q81 (some (AObj.box 49 [(.ow i8_0 (List.map Clock.cl v116)), (.sl (List.map Node.cl v115.nodes)), (.sl (List.map Task.cl v115.tasks)), (.ow i8_3 (List.map Tell.cl y136))]))).get TT;have q96 := QJ E2 E7 E8 E16 X16.get X19.get X2.get X20.get X22.get X22_5.get X8.get X8_0.get X8_3.get R139 (qh h131).1 R140 (qh h133).1 (Clock.clu y130) (Arg.clu y134) q95;refine zh 20 0 (cj2 E1 q96) ?_;refine S3 _ _ _ _ h135 _ _ _ _ _ _ X22.gx X19 X22_5 X20 ?_;refine Ql (cj2 E1 q96) ?_ ;refine qY (cj2 E1 q96) ?_;refine qP ?_;obtain rfl := qa h122;exact qg ⟨_, _, _, rfl, (q92.ne q78 _), L19, (q87.ne (Ne.symm N2__8) _), (q90.ne q77 _), L20, (q89.ne (Ne.symm N22__8) _), (q94.ne q84 _), L22_5, ((X4.ne (Gx.ap X8_3 X4.gx) _).ne (Ne.symm N4__8) _), (q88.same _ _), (q93.ne q79 _), L8_0, (q86.ne q81 _), L8_3, E1, E2, E4, E7, E8, E122, E123, E124, N19__20, N2__22, N2__4, N2__8, N22__4, N22__8, N22_5__8_0, N22_5__8_3, N4__8, N8_0__8_3, ((hP.set L8_3 (some (tkO 73 5 (List.length y136)))).set q88.le (some (AObj.box 49 [(.ow i8_0 (List.map Clock.cl v116)), (.sl (List.map Node.cl v115.nodes)), (.sl (List.map Task.cl v115.tasks)), (.ow i8_3 (List.map Tell.cl y136))])))⟩
    rintro e s ⟨v123, v124, v125, rfl, X19, L19, X2, X20, L20, X22, X22_5, L22_5, X4, X8, X8_0, L8_0, X8_3, L8_3, E1, E2, E4, E7, E8, E122, E123, E124, N19__20, N2__22, N2__4, N2__8, N22__4, N22__8, N22_5__8_0, N22_5__8_3, N4__8, N8_0__8_3, hP⟩
    (try dsimp only at hf119);refine w_x (cj2 E124 TT) ?_;obtain rfl := qa hf119;exact qT rfl ⟨_, _, _, _, rfl, X19, L19, X2, X20, L20, X22, X22_5, L22_5, X4, X8, X8_0, L8_0, X8_3, L8_3, E1, E2, E4, E7, E8, E122, E123, (xv (cj2 E124 TT)), N19__20, N2__22, N2__4, N2__8, N22__4, N22__8, N22_5__8_0, N22_5__8_3, N4__8, N8_0__8_3, hP⟩
   ·refine xf hb120 (qE (qM ?_));obtain rfl := qa hf119;refine qS rfl fun hr144 => ?_;obtain rfl := hr144;exact qK (qg ⟨_, _, _, rfl, X4, X8, X8_0, L8_0, X8_3, L8_3, E4, E8, N4__8, N8_0__8_3, hP⟩)
  rintro e s ⟨v111, v112, v113, rfl, X4, X8, X8_0, L8_0, X8_3, L8_3, E4, E8, N4__8, N8_0__8_3, hP⟩
  (try dsimp only at h);refine qk (fun e s => Bx σ s i4 49 [(.sl (List.map Clock.cl v112)), (.sl (List.map Node.cl v111.nodes)), (.sl (List.map Task.cl v111.tasks)), (.sl (List.map Tell.cl v113))] ∧ eP e 4 i4 ∧ eI e 5 (0 : Int) ∧ eI e 6 (0 : Int) ∧ Pre σ s) ?_ ?_
  ·have q97 := Gx.ap X4.gx X8_3;have q98 := Gx.ap X4.gx X8_0;have q99 := X4.same 49 [(.ow i8_0 (List.map Clock.cl v112)), (.sl (List.map Node.cl v111.nodes)), (.sl (List.map Task.cl v111.tasks)), (.ow i8_3 (List.map Tell.cl v113))];have q100 := X8_3.ne q97 (some (AObj.box 49 [(.ow i8_0 (List.map Clock.cl v112)), (.sl (List.map Node.cl v111.nodes)), (.sl (List.map Task.cl v111.tasks)), (.ow i8_3 (List.map Tell.cl v113))]));have q101 := X8_0.ne q98 (some (AObj.box 49 [(.ow i8_0 (List.map Clock.cl v112)), (.sl (List.map Node.cl v111.nodes)), (.sl (List.map Task.cl v111.tasks)), (.ow i8_3 (List.map Tell.cl v113))]));have q102 := X8.ne N4__8 (some (AObj.box 49 [(.ow i8_0 (List.map Clock.cl v112)), (.sl (List.map Node.cl v111.nodes)), (.sl (List.map Task.cl v111.tasks)), (.ow i8_3 (List.map Tell.cl v113))]));have q103 := qqp E4 E8 X4.get X8.get X8_0.get X8_3.get q99.get q102.get q101.get q100.get TT;refine w_x q103 ?_;exact Yp ((Gh.refl _ _).tr (Gh.box (c' := [(.sl (List.map Clock.cl v112)), (.sl (List.map Node.cl v111.nodes)), (.sl (List.map Task.cl v111.tasks)), (.sl (List.map Tell.cl v113))]) (X4.same _ _).get (.cons Wk.owr (.cons (.refl _) (.cons (.refl _) (.cons Wk.owr .nil)))))) ⟨((X4.same _ _).same _ _), E4, (xv q103), (xv q103), ((hP.set X4.le _).set X4.le _)⟩
  rintro e s ⟨X4, E4, E5, E6, hP⟩
  refine qp ?_;obtain rfl := qa h;exact qr (fun _ => rfl) (xr (rs := #[.cell 4 49, .tmp 5, .tmp 6]) (cj5 X4.get E4 E5 E6 TT)) hP (.refl _) (.tu (CnL.cons (.ag (CnL.cons (Cn.rows Clock.cn _) (CnL.cons (Cn.rows Node.cn _) (CnL.cons (Cn.rows Task.cn _) (CnL.cons (Cn.rows Tell.cn _) CnL.nil))))) (CnL.cons (.v _) (CnL.cons (.v _) CnL.nil)))) hK
end Go.Proofs.Ytohmmfimedgccaa.E
end
section
namespace Go.Proofs.Ytohmmfimedgccaa.E
set_option linter.unusedVariables false
set_option linter.unusedSimpArgs false
set_option maxRecDepth 10000
def QW (x : Input) : Clock := ⟨x.period, x.phase⟩
structure FlK (p : Program) (i : Nat) (F : Mp Int) : Prop where
 inp : ∀ (k : Nat) x, p.inputs[k]? = some x → F.get x.name = some (-1 - (k : Int))
 flow : ∀ (k : Nat) f, k < i → p.flows[k]? = some f → F.get f.name = some (k : Int)
 n : F.n ≤ p.inputs.length + i
theorem putO_s {F : Mp Int} {k : ByteArray} {v : Int} (h : F.n ≤ 1000) : Jw F k v = some (F.put k v) := by
 unfold Jw;rw [if_pos (by omega)]
noncomputable def m_make := B_flat_Make ZA YD zzQ JC
theorem s_make : Sat_flat_Make m_make := W_flat_Make _ _ _ _ s_number2 s_long s_tasks s_arg
structure FlatR (p : Program) (ρ : ByteArray → Clock) (F : Flat) : Prop where
 inputs : F.inputs = p.inputs.map QW
 nodes : F.nodes = p.nodes
 tlen : F.tasks.length = (cls (spP p.flows)).length
 task : ∀ (k : Nat) (x : ByteArray × Expr), (cls (spP p.flows))[k]? = some x → ∃ c : Clock, F.tasks[k]? = some (qX p x c) ∧ RefC ρ x.2 c
 ylen : F.tells.length = p.outputs.length
 tell : ∀ (k : Nat) (x : Output), p.outputs[k]? = some x → ∃ (i : Nat) (f : Flow), p.flows[i]? = some f ∧ f.name = x.flow ∧ F.tells[k]? = some ⟨ρ f.name, argOf p f.name f.e, x.deadline⟩
theorem t_mk0 {p : Program} {ρ : ByteArray → Clock} (w : FW p ρ) : ∃ F : Mp Int, FlK p 0 F ∧ qz (Zw p) ((0 : Int), (Mp.emp : Mp Int), (Mp.emp : Mp Int), (qi.mk p (Mp.emp : Mp Int) ([] : List ql) (Mp.emp : Mp Int) (0 : Int) (0 : Int)), ([] : List ql), (Flat.mk ([] : List Clock) p.nodes ([]) ([] : List Tell)), ([] : List Clock), ([] : List Tell)) = some (F, Mp.emp, ⟨p, F, [], Mp.emp, 0, 0⟩, [], ⟨p.inputs.map QW, p.nodes, [], []⟩, p.inputs.map QW, []) := by
 have hall := w.fit.all;have hbig : (1000000 : Nat) ≤ maxLen := by unfold maxLen; decide
 have hni : (p.inputs.map (fun x : Input => x.name)).Nodup := (List.nodup_append.1 w.nm.flows).1;obtain ⟨r, h1, h2⟩ := qL (f := Zw p) (fun i v => ∃ F : Mp Int, v = ((i : Int), F, Mp.emp, ⟨p, F, [], Mp.emp, 0, 0⟩, [], ⟨(p.inputs.take i).map QW, p.nodes, [], []⟩, (p.inputs.take i).map QW, []) ∧ (∀ (k : Nat) x, k < i → p.inputs[k]? = some x → F.get x.name = some (-1 - (k : Int))) ∧ F.n ≤ i) p.inputs.length
  (fun r => ∃ F : Mp Int, FlK p 0 F ∧ r = (F, Mp.emp, ⟨p, F, [], Mp.emp, 0, 0⟩, [], ⟨p.inputs.map QW, p.nodes, [], []⟩, p.inputs.map QW, [])) (fun i v hi hv => by
   obtain ⟨F, rfl, q1, q2⟩ := hv;unfold Zw;simp only [dlt hi, if_true, qy hi, Option.bind_some];rw [putO_s (by omega)];simp only [Option.bind_some];unfold zP;rw [if_pos (by simp only [List.length_map, List.length_take, List.length_cons, List.length_nil]; omega)];refine .inl ⟨_, rfl, F.put p.inputs[i].name (-1 - (i : Int)), ?_, fun k x hk hx => ?_, ?_⟩
   ·rw [zc hi (by omega), List.take_succ_eq_append_getElem hi, List.map_append, zn (n := (-1 : Int) - (i : Int)) (by omega) (by omega)];rfl
   ·simp only [Mp.put];by_cases e : x.name = p.inputs[i].name
    ·rw [if_pos e];obtain ⟨rfl, _⟩ := QU hni hx (List.getElem?_eq_getElem hi) e;rfl
    ·rw [if_neg e];refine q1 k x ?_ hx;by_cases hki : k = i
     ·subst hki;rw [List.getElem?_eq_getElem hi] at hx;obtain rfl := Option.some.inj hx;exact absurd rfl e
     ·omega
   ·simp only [Mp.put]; omega) (fun v hv => by
   obtain ⟨F, rfl, q1, q2⟩ := hv;unfold Zw;simp only [dge, Bool.false_eq_true, if_false];exact ⟨_, rfl, F, ⟨fun k x hx => q1 k x (List.getElem?_eq_some_iff.1 hx).1 hx, fun k f hk => by omega, by omega⟩, by rw [List.take_length]⟩) (v0 := ((0 : Int), (Mp.emp : Mp Int), (Mp.emp : Mp Int), (qi.mk p (Mp.emp : Mp Int) ([] : List ql) (Mp.emp : Mp Int) (0 : Int) (0 : Int)), ([] : List ql), (Flat.mk ([] : List Clock) p.nodes ([]) ([] : List Tell)), ([] : List Clock), ([] : List Tell))) ⟨Mp.emp, rfl, fun k x hk => by omega, Nat.le_refl _⟩
 obtain ⟨F, g1, rfl⟩ := h2;exact ⟨F, g1, h1⟩
theorem spP_take {p : Program} {i : Nat} (hi : i < p.flows.length) : spP (p.flows.take (i + 1)) = spP (p.flows.take i) ++ spE p.flows[i].name p.flows[i].e := by
 rw [List.take_succ_eq_append_getElem hi, spP_app];simp [spP]
theorem t_mk1 {p : Program} {ρ : ByteArray → Clock} (w : FW p ρ) {F : Mp Int} (hF : FlK p 0 F) : ∃ mk : qi, mk.p = p ∧ FlK p p.flows.length mk.flows ∧ mk.calls = (cls (spP p.flows)).map (Qf p) ∧ mk.at_ = zY Mp.emp 0 (cls (spP p.flows)) ∧ NumI mk ∧ qz (Zv p ZA) ((0 : Int), F, (Mp.emp : Mp Int), (⟨p, F, [], Mp.emp, 0, 0⟩ : qi), ([] : List ql)) = some (mk.flows, mk.at_, mk, mk.calls) := by
 have hall := w.fit.all;have hbig : (1000000 : Nat) ≤ maxLen := by unfold maxLen; decide
 have hnf : (p.flows.map (fun x : Flow => x.name)).Nodup := (List.nodup_append.1 w.nm.flows).2.1;have hnd := (List.nodup_append.1 w.nm.flows).2.2;have hcs := Qp w.fit;obtain ⟨r, h1, h2⟩ := qL (f := Zv p ZA) (fun i v => ∃ mk : qi, v = ((i : Int), mk.flows, mk.at_, mk, mk.calls) ∧ mk.p = p ∧ FlK p i mk.flows ∧ mk.calls = (cls (spP (p.flows.take i))).map (Qf p) ∧ mk.at_ = zY Mp.emp 0 (cls (spP (p.flows.take i))) ∧ NumI mk) p.flows.length
  (fun r => ∃ mk : qi, r = (mk.flows, mk.at_, mk, mk.calls) ∧ mk.p = p ∧ FlK p p.flows.length mk.flows ∧ mk.calls = (cls (spP p.flows)).map (Qf p) ∧ mk.at_ = zY Mp.emp 0 (cls (spP p.flows)) ∧ NumI mk) (fun i v hi hv => by
   obtain ⟨mk, rfl, q1, q2, q3, q4, q5⟩ := hv;unfold Zv;have hmem := List.getElem_mem hi;have hfit := w.fit.flow _ hmem;have hsz := hfit.size;have hnm := hfit.name.2;have hn := q2.n;have hlc : (cls (spP (p.flows.take i))).length ≤ 4000 := by
    have := Yc (p.flows.take i) 0;have h3 := zzP (fs := p.flows.take i) 0 fun f hff => (w.fit.flow f (List.mem_of_mem_take hff)).size;have h4 : (p.flows.take i).length ≤ p.flows.length := by simp; omega
    omega
   have hcl : mk.calls.length ≤ 4000 := by rw [q3, List.length_map]; exact hlc
   have hal : mk.at_.n ≤ 4000 := by rw [q4, qqZ]; simp only [Mp.emp]; omega
   simp only [dlt hi, if_true, qy hi, Option.bind_some];rw [putO_s (by omega)];simp only [Option.bind_some];obtain ⟨m', g1, g2⟩ := t_number2 p.flows[i].e hfit.e ⟨mk.p, mk.flows.put p.flows[i].name (i : Int), mk.calls, mk.at_, mk.error, mk.e⟩ p.flows[i].name (by simp only; rw [q1]; omega) (by omega) (by simp only; omega) (by simp only; omega);rw [g1];refine .inl ⟨_, rfl, m', ?_, g2.p.trans q1, ?_, ?_, ?_, g2.num q5⟩
   ·rw [zc hi (by omega)]
   ·rw [g2.flows];refine ⟨fun k x hx => ?_, fun k f hk hf => ?_, by simp only [Mp.put]; omega⟩
    ·simp only [Mp.put];rw [if_neg (hnd _ (List.mem_map.2 ⟨x, List.mem_of_getElem? hx, rfl⟩) _ (List.mem_map.2 ⟨_, hmem, rfl⟩))];exact q2.inp k x hx
    ·simp only [Mp.put];by_cases e : f.name = p.flows[i].name
     ·rw [if_pos e];obtain ⟨rfl, _⟩ := QU hnf hf (List.getElem?_eq_getElem hi) e;rfl
     ·rw [if_neg e];refine q2.flow k f ?_ hf;by_cases hki : k = i
      ·subst hki;rw [List.getElem?_eq_getElem hi] at hf;obtain rfl := Option.some.inj hf;exact absurd rfl e
      ·omega
   ·rw [g2.calls, spP_take hi, YY, List.map_append];simp only [q1, q3]
   ·rw [g2.at_, spP_take hi, YY, zza];simp only [q3, q4, List.length_map, Nat.zero_add]) (fun v hv => by
   obtain ⟨mk, rfl, q1, q2, q3, q4, q5⟩ := hv;unfold Zv;simp only [dge, Bool.false_eq_true, if_false];rw [List.take_length] at q3 q4;exact ⟨_, rfl, mk, rfl, q1, q2, q3, q4, q5⟩) (v0 := ((0 : Int), F, (Mp.emp : Mp Int), (⟨p, F, [], Mp.emp, 0, 0⟩ : qi), ([] : List ql))) ⟨⟨p, F, [], Mp.emp, 0, 0⟩, rfl, rfl, hF, rfl, rfl, .inl ⟨rfl, by simp⟩⟩
 obtain ⟨mk, rfl, q1, q2, q3, q4, q5⟩ := h2;exact ⟨mk, q1, q2, q3, q4, q5, h1⟩
theorem FlK.ok {p : Program} {ρ : ByteArray → Clock} (w : FW p ρ) {m : qi} (hp : m.p = p) (hF : FlK p p.flows.length m.flows) (ha : m.at_ = zY Mp.emp 0 (cls (spP p.flows))) : MkOK m := by
 subst hp;refine ⟨hF.inp, fun i f hf => hF.flow i f (List.getElem?_eq_some_iff.1 hf).1 hf, fun k x hk => ?_⟩;rw [ha, QQv _ _ _ w.cnodup k x hk, Nat.zero_add]
theorem t_mk2 {p : Program} {ρ : ByteArray → Clock} (w : FW p ρ) {mk : qi} (hp : mk.p = p) (hF : FlK p p.flows.length mk.flows) (ha : mk.at_ = zY Mp.emp 0 (cls (spP p.flows))) (hn : NumI mk) : ∃ er ee : Int, qz (Zu p YD) ((0 : Int), mk.flows, mk.at_, mk, mk.calls) = some (mk.flows, mk.at_, ⟨mk.p, mk.flows, mk.calls, mk.at_, er, ee⟩, mk.calls) ∧ ((ee = 0 ∧ mk.calls.length ≤ 30 ∧ ∀ f ∈ p.flows, ¬ LongS p f.name f.e true) ∨ (ee = 8 ∧ (30 < mk.calls.length ∨ ∃ f ∈ p.flows, LongS p f.name f.e true))) := by
 have hall := w.fit.all;have hbig : (1000000 : Nat) ≤ maxLen := by unfold maxLen; decide
 obtain ⟨r, h1, h2⟩ := qL (f := Zu p YD) (fun i v => ∃ er ee : Int, v = ((i : Int), mk.flows, mk.at_, ⟨mk.p, mk.flows, mk.calls, mk.at_, er, ee⟩, mk.calls) ∧ ((ee = 0 ∧ mk.calls.length ≤ 30 ∧ ∀ f ∈ p.flows.take i, ¬ LongS p f.name f.e true) ∨ (ee = 8 ∧ (30 < mk.calls.length ∨ ∃ f ∈ p.flows, LongS p f.name f.e true)))) p.flows.length
  (fun r => ∃ er ee : Int, r = (mk.flows, mk.at_, ⟨mk.p, mk.flows, mk.calls, mk.at_, er, ee⟩, mk.calls) ∧ ((ee = 0 ∧ mk.calls.length ≤ 30 ∧ ∀ f ∈ p.flows, ¬ LongS p f.name f.e true) ∨ (ee = 8 ∧ (30 < mk.calls.length ∨ ∃ f ∈ p.flows, LongS p f.name f.e true)))) (fun i v hi hv => by
   obtain ⟨er, ee, rfl, hq⟩ := hv;unfold Zu;have hmem := List.getElem_mem hi;simp only [dlt hi, if_true, qy hi, Option.bind_some];rcases hq with ⟨rfl, q1, q2⟩ | ⟨rfl, q1⟩
   ·have hsz := w.psz (QO hmem);have hm : MkOK ⟨mk.p, mk.flows, mk.calls, mk.at_, er, 0⟩ := FlK.ok w (m := ⟨mk.p, mk.flows, mk.calls, mk.at_, er, 0⟩) hp hF ha;obtain ⟨b, g1, g2⟩ := t_long (m := ⟨mk.p, mk.flows, mk.calls, mk.at_, er, 0⟩) (ρ := ρ) (by simp only; rw [hp]; exact w) hm p.flows[i].e p.flows[i].name true (by simp only; rw [hp]; exact QO hmem) (by omega);simp only [decide_true, if_true, Bool.true_and];rw [g1];simp only at g2;rw [hp] at g2;simp only [Option.bind_some];cases b with
    | true =>
     simp only [if_true, Option.bind_some];exact .inl ⟨_, rfl, p.flows[i].at_, 8, by rw [zc hi (by omega)], .inr ⟨rfl, .inr ⟨_, hmem, g2.1 rfl⟩⟩⟩
    | false =>
     simp only [Bool.false_eq_true, if_false, Option.bind_some];refine .inl ⟨_, rfl, er, 0, by rw [zc hi (by omega)], .inl ⟨rfl, q1, fun f hf => ?_⟩⟩;rw [List.take_succ_eq_append_getElem hi, List.mem_append, List.mem_singleton] at hf;rcases hf with hf | rfl
     ·exact q2 f hf
     ·intro h;have := g2.2 h;cases this
   ·simp only [Int.reduceEq, decide_false, Bool.false_eq_true, if_false, Bool.false_and, Option.bind_some];exact .inl ⟨_, rfl, er, 8, by rw [zc hi (by omega)], .inr ⟨rfl, q1⟩⟩) (fun v hv => by
   obtain ⟨er, ee, rfl, hq⟩ := hv;unfold Zu;simp only [dge, Bool.false_eq_true, if_false];rw [List.take_length] at hq;exact ⟨_, rfl, er, ee, rfl, hq⟩) (v0 := ((0 : Int), mk.flows, mk.at_, mk, mk.calls)) ⟨mk.error, mk.e, rfl, by
    rcases hn with ⟨h1, h2⟩ | ⟨h1, h2⟩
    ·exact .inl ⟨h1, h2, fun f hf => by simp at hf⟩
    ·exact .inr ⟨h1, .inl h2⟩⟩
 obtain ⟨er, ee, rfl, hq⟩ := h2;exact ⟨er, ee, h1, hq⟩
theorem t_mk3 {p : Program} {ρ : ByteArray → Clock} (w : FW p ρ) {mk : qi} (hp : mk.p = p) (hF : FlK p p.flows.length mk.flows) (ha : mk.at_ = zY Mp.emp 0 (cls (spP p.flows))) (T : List Task) : ∃ Y : List Tell, qz (Zt mk.flows mk.at_ mk.calls mk p (p.flows.map fun f => ρ f.name) JC) ((0 : Int), (⟨p.inputs.map QW, p.nodes, T, []⟩ : Flat), p.inputs.map QW, ([] : List Tell)) = some (⟨p.inputs.map QW, p.nodes, T, Y⟩, p.inputs.map QW, Y) ∧ Y.length = p.outputs.length ∧ ∀ (k : Nat) (x : Output), p.outputs[k]? = some x → ∃ (i : Nat) (f : Flow), p.flows[i]? = some f ∧ f.name = x.flow ∧ Y[k]? = some ⟨ρ f.name, argOf p f.name f.e, x.deadline⟩ := by
 have hall := w.fit.all;have hbig : (1000000 : Nat) ≤ maxLen := by unfold maxLen; decide
 have hm := FlK.ok w hp hF ha;obtain ⟨r, h1, h2⟩ := qL (f := Zt mk.flows mk.at_ mk.calls mk p (p.flows.map fun f => ρ f.name) JC) (fun i v => ∃ Y : List Tell, v = ((i : Int), (⟨p.inputs.map QW, p.nodes, T, Y⟩ : Flat), p.inputs.map QW, Y) ∧ Y.length = i ∧ ∀ (k : Nat) (x : Output), k < i → p.outputs[k]? = some x → ∃ (i : Nat) (f : Flow), p.flows[i]? = some f ∧ f.name = x.flow ∧ Y[k]? = some ⟨ρ f.name, argOf p f.name f.e, x.deadline⟩) p.outputs.length
  (fun r => ∃ Y : List Tell, r = ((⟨p.inputs.map QW, p.nodes, T, Y⟩ : Flat), p.inputs.map QW, Y) ∧ Y.length = p.outputs.length ∧ ∀ (k : Nat) (x : Output), p.outputs[k]? = some x → ∃ (i : Nat) (f : Flow), p.flows[i]? = some f ∧ f.name = x.flow ∧ Y[k]? = some ⟨ρ f.name, argOf p f.name f.e, x.deadline⟩) (fun i v hi hv => by
   obtain ⟨Y, rfl, q1, q2⟩ := hv;unfold Zt;have hmem := List.getElem_mem hi;obtain ⟨y, hy1, hy2⟩ := w.nm.output _ hmem;obtain ⟨k, hk⟩ := List.getElem?_of_mem hy1;obtain ⟨hkl, hke⟩ := List.getElem?_eq_some_iff.1 hk;have hget := hF.flow k y hkl hk;rw [hy2] at hget;have hc : qB (p.flows.map fun f => ρ f.name) (k : Int) = some (ρ y.name) := by
    rw [qy (by simpa using hkl)];simp [hke]
   have hg : qB p.flows (k : Int) = some y := by rw [qy hkl, hke]
   obtain ⟨n, hn, har⟩ := w.argOf (QO hy1);have hsz := w.psz (QO hy1);have hv := v_arg (m := mk) (ρ := ρ) (by rw [hp]; exact w) hm (by rw [hp]; exact har) (by omega) (by omega);simp only [dlt hi, if_true, qy hi, Option.bind_some, hget, Option.getD_some, hc, hg];rw [hy2] at hv;rw [hv];simp only [Option.bind_some];unfold zP;rw [if_pos (by simp only [List.length_cons, List.length_nil]; omega)];refine .inl ⟨_, rfl, Y ++ [⟨ρ y.name, argOf p y.name y.e, p.outputs[i].deadline⟩], by rw [zc hi (by omega), hy2], by simp [q1], fun k' x' hk' hx' => ?_⟩;by_cases e : k' = i
   ·subst e;rw [List.getElem?_eq_getElem hi] at hx';obtain rfl := Option.some.inj hx';refine ⟨k, y, hk, hy2, ?_⟩;rw [List.getElem?_append_right (by omega), q1, Nat.sub_self];rfl
   ·obtain ⟨i', f, e1, e2, e3⟩ := q2 k' x' (by omega) hx';exact ⟨i', f, e1, e2, by rw [List.getElem?_append_left (by omega)]; exact e3⟩) (fun v hv => by
   obtain ⟨Y, rfl, q1, q2⟩ := hv;unfold Zt;simp only [dge, Bool.false_eq_true, if_false];exact ⟨_, rfl, Y, rfl, q1, fun k x hx => q2 k x (List.getElem?_eq_some_iff.1 hx).1 hx⟩) (v0 := ((0 : Int), (⟨p.inputs.map QW, p.nodes, T, []⟩ : Flat), p.inputs.map QW, ([] : List Tell))) ⟨[], rfl, rfl, fun k x hk => by omega⟩
 obtain ⟨Y, rfl, q1, q2⟩ := h2;exact ⟨Y, h1, q1, q2⟩
theorem t_make {p : Program} {ρ : ByteArray → Clock} (w : FW p ρ) : ∃ F a e, m_make p (p.flows.map fun f => ρ f.name) = some (F, a, e) ∧ ((e = 8 ∧ F.tasks = [] ∧ (30 < (cls (spP p.flows)).length ∨ ∃ f ∈ p.flows, LongS p f.name f.e true)) ∨ (e = 0 ∧ (cls (spP p.flows)).length ≤ 30 ∧ (∀ f ∈ p.flows, ¬ LongS p f.name f.e true) ∧ FlatR p ρ F)) := by
 obtain ⟨F, hF, h0⟩ := t_mk0 w;obtain ⟨mk, hp, hF1, hc, ha, hn, h1⟩ := t_mk1 w hF;obtain ⟨er, ee, h2, hq⟩ := t_mk2 w hp hF1 ha hn;have hcl : mk.calls.length = (cls (spP p.flows)).length := by rw [hc, List.length_map]
 rw [hcl] at hq;unfold m_make B_flat_Make;rw [h0];simp only [Option.bind_some];rw [h1];simp only [Option.bind_some];rw [h2];simp only [Option.bind_some];rcases hq with ⟨rfl, q1, q2⟩ | ⟨rfl, q1⟩
 ·simp only [decide_true, Bool.not_true, Bool.false_eq_true, if_false];obtain ⟨T, g1, g2, g3⟩ := t_tasks (m := ⟨mk.p, mk.flows, mk.calls, mk.at_, er, 0⟩) (ρ := ρ) (by simp only; rw [hp]; exact w) (FlK.ok w (m := ⟨mk.p, mk.flows, mk.calls, mk.at_, er, 0⟩) hp hF1 ha) (by simp only; rw [hp]; exact hc);simp only at g2 g3;rw [hp] at g2 g3;obtain ⟨Y, g4, g5, g6⟩ := t_mk3 w (mk := ⟨mk.p, mk.flows, mk.calls, mk.at_, er, 0⟩) hp hF1 ha T;rw [g1];simp only [Option.bind_some];rw [g4];exact ⟨_, _, _, rfl, .inr ⟨rfl, q1, q2, rfl, rfl, g2, g3, g5, g6⟩⟩
 ·simp only [Int.reduceEq, decide_false, Bool.not_false, if_true];exact ⟨_, _, _, rfl, .inl ⟨rfl, rfl, q1⟩⟩
end Go.Proofs.Ytohmmfimedgccaa.E
end
section
namespace Go.Proofs.Ytohmmfimedgccaa.E
set_option maxRecDepth 100000
set_option maxHeartbeats 4000000
set_option linter.unusedVariables false
set_option linter.unusedSimpArgs false
noncomputable def ZU (v16 : Int) (y26 : Expr) (a0 : Program) (a1 : (List qd)) (f1 : Program → (List qd) → qd → Int → Option (Arg × Bool)) (f2 : Expr → qd → Option ((List qd) × Int)) : (Int × Int) → Option ((Int × Int) ⊕ (Bool ⊕ Unit))
 | (v32, v33) =>
  if (decide (v33 < ((List.length y26.args : Nat) : Int))) then
   ((qB a1 v16).bind fun y40 =>
   (f1 a0 a1 (qd.mk y40.flow (IntKind.i64.wrap (y40.at_ + v32))) (5000 : Int)).bind fun y42 =>
   if (decide ((20 : Int) < ((List.length y42.1.ops : Nat) : Int))) then
    some (.inl true)
   else
    (qB y26.args v33).bind fun y48 =>
    (f2 y48 (qd.mk (0 : Int) (0 : Int))).bind fun y50 =>
    some (.inr (IntKind.i64.wrap (v32 + y50.2))) : Option (Bool ⊕ Int)).bind fun x => match x with
   | .inl r => some (.inr (.inl r))
   | .inr v39 =>
    some (.inl (v39, (IntKind.i64.wrap (v33 + (1 : Int)))))
  else
   some (.inr (.inr ()))
noncomputable def ZV (a0 : Program) (a1 : (List qd)) (f1 : Program → (List qd) → qd → Int → Option (Arg × Bool)) (f2 : Expr → qd → Option ((List qd) × Int)) (f0 : Expr → Int → Option Expr) : Int → Option (Int ⊕ (Bool ⊕ Unit))
 | v16 =>
  if (decide (v16 < ((List.length a1 : Nat) : Int))) then
   ((qB a1 v16).bind fun y22 =>
   (qB a0.flows y22.flow).bind fun y24 =>
   (f0 y24.e y22.at_).bind fun y26 =>
   (qz (ZU v16 y26 a0 a1 f1 f2) ((1 : Int), (0 : Int)) : Option (Bool ⊕ Unit)).bind fun x => match x with
   | .inl r => some (.inl r)
   | .inr _ =>
    some (.inr ()) : Option (Bool ⊕ Unit)).bind fun x => match x with
   | .inl r => some (.inr (.inl r))
   | .inr _ =>
    some (.inl (IntKind.i64.wrap (v16 + (1 : Int))))
  else
   some (.inr (.inr ()))
noncomputable def ZW (a0 : Program) (a1 : (List qd)) (f1 : Program → (List qd) → qd → Int → Option (Arg × Bool)) : Int → Option (Int ⊕ (Bool ⊕ Unit))
 | v3 =>
  if (decide (v3 < ((List.length a0.flows : Nat) : Int))) then
   ((f1 a0 a1 (qd.mk v3 (0 : Int)) (5000 : Int)).bind fun y9 =>
   if (decide ((20 : Int) < ((List.length y9.1.ops : Nat) : Int))) then
    some (.inl true)
   else
    some (.inr ()) : Option (Bool ⊕ Unit)).bind fun x => match x with
   | .inl r => some (.inr (.inl r))
   | .inr _ =>
    some (.inl (IntKind.i64.wrap (v3 + (1 : Int))))
  else
   some (.inr (.inr ()))
noncomputable def B_law08_long (f0 : Expr → Int → Option Expr) (f1 : Program → (List qd) → qd → Int → Option (Arg × Bool)) (f2 : Expr → qd → Option ((List qd) × Int)) (a0 : Program) (a1 : (List qd)) : Option Bool :=
 (qz (ZW a0 a1 f1) (0 : Int) : Option (Bool ⊕ Unit)).bind fun x => match x with
 | .inl r => some r
 | .inr _ =>
  (qz (ZV a0 a1 f1 f2 f0) (0 : Int) : Option (Bool ⊕ Unit)).bind fun x => match x with
  | .inl r => some r
  | .inr _ =>
   some false
abbrev C20_0 (z0 : Env) (z1 : (List qd)) : Prop := eS z0 1 qd.cl z1
theorem W_law08_long (f0 f1 f2) (S0 : Sat_ref08_Get f0) (S1 : Sat_ref08_Arg f1) (S2 : Sat_ref08_Calls f2) : Sat_law08_long (B_law08_long f0 f1 f2) := by
 intro a0 a1 r h σ K hK;refine qZ Try.func20 rfl rfl (by kernel_rfl) ?_;unfold B_law08_long at h;have hP := Pre.refl σ;have E0 : qD [(.ag (Program.cl a0)), (.sl (List.map qd.cl a1))] 0 = (.ag (Program.cl a0)) := rfl;have E1 : qD [(.ag (Program.cl a0)), (.sl (List.map qd.cl a1))] 1 = (.sl (List.map qd.cl a1)) := rfl;have TT := cj3 Arg.cle Expr.cle (QJ Expr.rlen Flow.cle Program.cle T_119 T_2 T_22 T_23 T_24 T_25 T_27 T_3 T_37 T_39 T_41 T_52 T_58 T_66 T_68 T_9 qd.cle);refine qk (fun e s => ∃ i2 : Nat, Bx σ s i2 27 (Program.cl a0) ∧ C20_0 e a1 ∧ eP e 2 i2 ∧ Pre σ s) ?_ ?_
 ·refine w_x (cj2 E0 TT) ?_;exact qg ⟨σ.length, (Bx.new hP _ _), E1, (xv (cj2 E0 TT)), (hP.app _)⟩
 rintro e s ⟨i2, X2, E1, E2, hP⟩
 refine qm (qe (w_x Expr.rlen ?_));refine qf ?_;obtain ⟨x1, h2, h⟩ := qb h;refine qk (fun e s => .inr () = x1 ∧ Bx σ s i2 27 (Program.cl a0) ∧ C20_0 e a1 ∧ eP e 2 i2 ∧ Pre σ s) ?_ ?_
 ·refine qo (qH h2 (fun v e s => ∃ v3, v3 = v ∧ Bx σ s i2 27 (Program.cl a0) ∧ C20_0 e a1 ∧ eP e 2 i2 ∧ eI e 5 v3 ∧ Pre σ s) ⟨_, WkE.refl _, _, rfl, X2, E1, E2, (xv TT), hP⟩ ?_)
  rintro v x4 e s hf5 ⟨v3, rfl, X2, E1, E2, E5, hP⟩
  unfold ZW at hf5;(try dsimp only at hf5);refine qm (qe (w_x (cj4 E2 E5 X2.get TT) ?_));refine qf (qe ?_);rcases qj hf5 with ⟨hb6, hf5⟩ | ⟨hb6, hf5⟩
  ·refine xt hb6 (qn (qf ?_));obtain ⟨x7, h8, hf5⟩ := qb hf5;refine qk (fun e s => .inr () = x7 ∧ Bx σ s i2 27 (Program.cl a0) ∧ C20_0 e a1 ∧ eP e 2 i2 ∧ eI e 5 v3 ∧ Pre σ s) ?_ ?_
   ·refine qo ?_;obtain ⟨y9, h10, h8⟩ := qb h8;refine qk (fun e s => ∃ i6 : Nat, Bx σ s i2 27 (Program.cl a0) ∧ Bx σ s i6 68 (Arg.cl y9.1) ∧ C20_0 e a1 ∧ eP e 2 i2 ∧ eI e 5 v3 ∧ eP e 6 i6 ∧ Pre σ s) ?_ ?_
    ·have q1 := cj5 E1 E2 E5 X2.g3 TT;refine w_x q1 ?_;refine S1 _ _ _ _ _ h10 _ _  ?_;refine w_y q1 ?_;exact qg ⟨s.length, (X2.app _), (Bx.new hP _ _), E1, E2, E5, (xv q1), (hP.app _)⟩
    rintro e s ⟨i6, X2, X6, E1, E2, E5, E6, hP⟩
    refine qe (w_x (cj3 E6 X6.get TT) ?_);refine qf ?_;rcases qj h8 with ⟨hb11, h8⟩ | ⟨hb11, h8⟩
    ·refine xt hb11 (qe (w_x Expr.rlen ?_));refine qf (qp (qx ?_));obtain rfl := qa h8;refine qC ?_;(try dsimp only at hf5);obtain rfl := qa hf5;refine zk rfl fun hr12 => ?_;obtain rfl := hr12;refine qx (qC ?_);(try dsimp only at h);obtain rfl := qa h;exact qr (fun _ => rfl) (xr (rs := #[.tmp 4]) TT) hP (.refl _) (.v _) hK
    ·refine xf hb11 (qn (qP ?_));obtain rfl := qa h8;exact qg ⟨rfl, X2, E1, E2, E5, hP⟩
   rintro e s ⟨rfl, X2, E1, E2, E5, hP⟩
   (try dsimp only at hf5);refine w_x (cj2 E5 TT) ?_;obtain rfl := qa hf5;exact qT rfl ⟨_, rfl, X2, E1, E2, (xv (cj2 E5 TT)), hP⟩
  ·refine xf hb6 (qE (qM ?_));obtain rfl := qa hf5;refine qS rfl fun hr13 => ?_;obtain rfl := hr13;exact qK (qg ⟨rfl, X2, E1, E2, hP⟩)
 rintro e s ⟨rfl, X2, E1, E2, hP⟩
 (try dsimp only at h);refine qm (qe (w_x Expr.rlen ?_));refine qf ?_;obtain ⟨x14, h15, h⟩ := qb h;refine qk (fun e s => .inr () = x14 ∧ Pre σ s) ?_ ?_
 ·refine qo (qH h15 (fun v e s => ∃ v16, v16 = v ∧ Bx σ s i2 27 (Program.cl a0) ∧ C20_0 e a1 ∧ eP e 2 i2 ∧ eI e 8 v16 ∧ Pre σ s) ⟨_, WkE.refl _, _, rfl, X2, E1, E2, (xv TT), hP⟩ ?_)
  rintro v x17 e s hf18 ⟨v16, rfl, X2, E1, E2, E8, hP⟩
  unfold ZV at hf18;(try dsimp only at hf18);refine qm (qe (w_x (cj3 E1 E8 TT) ?_));refine qf (qe ?_);rcases qj hf18 with ⟨hb19, hf18⟩ | ⟨hb19, hf18⟩
  ·refine xt hb19 (qn (qf ?_));obtain ⟨x20, h21, hf18⟩ := qb hf18;refine qk (fun e s => .inr () = x20 ∧ Bx σ s i2 27 (Program.cl a0) ∧ C20_0 e a1 ∧ eP e 2 i2 ∧ eI e 8 v16 ∧ Pre σ s) ?_ ?_
   ·refine qo ?_;obtain ⟨y22, h23, h21⟩ := qb h21;obtain ⟨y24, h25, h21⟩ := qb h21;obtain ⟨y26, h27, h21⟩ := qb h21;refine qk (fun e s => ∃ i9 : Nat, Bx σ s i2 27 (Program.cl a0) ∧ Bx σ s i9 39 (Expr.cl y26) ∧ C20_0 e a1 ∧ eP e 2 i2 ∧ eI e 8 v16 ∧ eP e 9 i9 ∧ Pre σ s) ?_ ?_
    ·have R28 := qA (f := qd.cl) (qh h23).2;have R29 := qA (f := Flow.cl) (qh h25).2;have q2 := X2.app [some (AObj.box 39 (Expr.cl y26))];have q3 := Bx.at hP (l := [some (AObj.box 39 (Expr.cl y26))]) (j := 0) (t := 39) (c := (Expr.cl y26)) rfl;have q4 := qqp E1 E2 E8 X2.g3 R28 (qh h23).1 R29 (qh h25).1 q2.get q3.get TT;refine zh 18 1 q4 ?_;refine S0 _ _ _ h27 _ _  ?_;refine Ql q4 ?_ ;refine qY q4 ?_;exact qg ⟨(s.length), q2, q3, E1, E2, E8, (xv q4), (hP.app _)⟩
    rintro e s ⟨i9, X2, X9, E1, E2, E8, E9, hP⟩
    refine qe (w_x Expr.rlen ?_);refine qf (qe (w_x Expr.rlen ?_));refine qf ?_;obtain ⟨x30, h31, h21⟩ := qb h21;refine Qd (fun e s => .inr () = x30 ∧ Bx σ s i2 27 (Program.cl a0) ∧ C20_0 e a1 ∧ eP e 2 i2 ∧ eI e 8 v16 ∧ Pre σ s) ?_ ?_
    ·refine qo (qH h31 (fun v e s => ∃ v32 v33, (v32, v33) = v ∧ Bx σ s i2 27 (Program.cl a0) ∧ Bx σ s i9 39 (Expr.cl y26) ∧ C20_0 e a1 ∧ eP e 2 i2 ∧ eI e 8 v16 ∧ eP e 9 i9 ∧ eI e 10 v32 ∧ eI e 11 v33 ∧ Pre σ s) ⟨_, WkE.refl _, _, _, rfl, X2, X9, E1, E2, E8, E9, (xv TT), (xv TT), hP⟩ ?_)
     rintro v x34 e s hf35 ⟨v32, v33, rfl, X2, X9, E1, E2, E8, E9, E10, E11, hP⟩
     unfold ZU at hf35;(try dsimp only at hf35);refine qm (qe (w_x (cj4 E9 E11 X9.get TT) ?_));refine qf (qe ?_);rcases qj hf35 with ⟨hb36, hf35⟩ | ⟨hb36, hf35⟩
     ·refine xt hb36 (qn (qf ?_));obtain ⟨x37, h38, hf35⟩ := qb hf35;refine qk (fun e s => ∃ v39 : Int, .inr v39 = x37 ∧ Bx σ s i2 27 (Program.cl a0) ∧ Bx σ s i9 39 (Expr.cl y26) ∧ C20_0 e a1 ∧ eP e 2 i2 ∧ eI e 8 v16 ∧ eP e 9 i9 ∧ eI e 10 v39 ∧ eI e 11 v33 ∧ Pre σ s) ?_ ?_
      ·refine qo ?_;obtain ⟨y40, h41, h38⟩ := qb h38;obtain ⟨y42, h43, h38⟩ := qb h38;refine qk (fun e s => ∃ i12 : Nat, Bx σ s i12 68 (Arg.cl y42.1) ∧ Bx σ s i2 27 (Program.cl a0) ∧ Bx σ s i9 39 (Expr.cl y26) ∧ C20_0 e a1 ∧ eP e 2 i2 ∧ eI e 8 v16 ∧ eP e 9 i9 ∧ eI e 10 v32 ∧ eI e 11 v33 ∧ eP e 12 i12 ∧ Pre σ s) ?_ ?_
       ·have R44 := qA (f := qd.cl) (qh h41).2;have q5 := X2.app [some (AObj.box 68 (Arg.cl y42.1))];have q6 := Bx.at hP (l := [some (AObj.box 68 (Arg.cl y42.1))]) (j := 0) (t := 68) (c := (Arg.cl y42.1)) rfl;have q7 := Qy E1 E2 E8 E10 X2.g3 R44 (qh h41).1 q5.get q6.get TT;refine zh 21 1 q7 ?_;refine S1 _ _ _ _ _ h43 _ _  ?_;refine Ql q7 ?_ ;refine qY q7 ?_;exact qg ⟨(s.length), q6, q5, (X9.app _), E1, E2, E8, E9, E10, E11, (xv q7), (hP.app _)⟩
       rintro e s ⟨i12, X12, X2, X9, E1, E2, E8, E9, E10, E11, E12, hP⟩
       refine qm (qe (w_x (cj3 E12 X12.get TT) ?_));refine qf (qe ?_);rcases qj h38 with ⟨hb45, h38⟩ | ⟨hb45, h38⟩
       ·refine xt hb45 (qe (w_x Expr.rlen ?_));refine qf (qp (qW (qx ?_)));obtain rfl := qa h38;refine qC ?_;(try dsimp only at hf35);obtain rfl := qa hf35;refine zk rfl fun hr46 => ?_;obtain rfl := hr46;refine qx (JX ?_);(try dsimp only at h21);refine qx ?_;obtain rfl := qa h21;refine qC ?_;(try dsimp only at hf18);obtain rfl := qa hf18;refine zk rfl fun hr47 => ?_;obtain rfl := hr47;refine qx (qC ?_);(try dsimp only at h);obtain rfl := qa h;exact qr (fun _ => rfl) (xr (rs := #[.tmp 4]) TT) hP (.refl _) (.v _) hK
       ·refine xf hb45 (qn (qf (qe ?_)));obtain ⟨y48, h49, h38⟩ := qb h38;obtain ⟨y50, h51, h38⟩ := qb h38;have R52 : (Expr.rows y26.args)[(v33).toNat]? = some (Expr.cl y48) := Expr.rget (qh h49).2;have q8 := cj6 E9 E11 X9.get R52 (qh h49).1 TT;refine w_x q8 ?_;refine S2 _ _ _ h51 _ _  ?_;refine w_y q8 ?_;refine qf (w_x (cj2 E10 TT) ?_);refine qP ?_;obtain rfl := qa h38;exact qg ⟨_, rfl, X2, X9, E1, E2, E8, E9, (xv (cj2 E10 TT)), E11, hP⟩
      rintro e s ⟨v39, rfl, X2, X9, E1, E2, E8, E9, E10, E11, hP⟩
      (try dsimp only at hf35);refine w_x (cj2 E11 TT) ?_;obtain rfl := qa hf35;exact qT rfl ⟨_, _, rfl, X2, X9, E1, E2, E8, E9, E10, (xv (cj2 E11 TT)), hP⟩
     ·refine xf hb36 (qE (qM ?_));obtain rfl := qa hf35;refine qS rfl fun hr53 => ?_;obtain rfl := hr53;exact qK (zr ⟨rfl, X2, E1, E2, E8, hP⟩)
    rintro e s ⟨rfl, X2, E1, E2, E8, hP⟩
    (try dsimp only at h21);refine qP ?_;obtain rfl := qa h21;exact qg ⟨rfl, X2, E1, E2, E8, hP⟩
   rintro e s ⟨rfl, X2, E1, E2, E8, hP⟩
   (try dsimp only at hf18);refine w_x (cj2 E8 TT) ?_;obtain rfl := qa hf18;exact qT rfl ⟨_, rfl, X2, E1, E2, (xv (cj2 E8 TT)), hP⟩
  ·refine xf hb19 (qE (qM ?_));obtain rfl := qa hf18;refine qS rfl fun hr54 => ?_;obtain rfl := hr54;exact qK (qg ⟨rfl, hP⟩)
 rintro e s ⟨rfl, hP⟩
 (try dsimp only at h);refine qe (w_x Expr.rlen ?_);refine qf (qp ?_);obtain rfl := qa h;exact qr (fun _ => rfl) (xr (rs := #[.tmp 4]) TT) hP (.refl _) (.v _) hK
noncomputable def QX (a0 : Flat) (f1 : Flat → Arg → Clock → Option Bool) : Int → Option (Int ⊕ (Bool ⊕ Unit))
 | v74 =>
  if (decide (v74 < ((List.length a0.tells : Nat) : Int))) then
   ((qB a0.tells v74).bind fun y80 =>
   (if ((decide (y80.deadline < (1 : Int))) || (decide ((1000 : Int) < y80.deadline))) then
    some false
   else
    (f1 a0 y80.arg y80.clock).bind fun y83 =>
    some (!y83)).bind fun w85 =>
   if (((decide (y80.deadline < (1 : Int))) || (decide ((1000 : Int) < y80.deadline))) || w85) then
    some (.inl false)
   else
    some (.inr ()) : Option (Bool ⊕ Unit)).bind fun x => match x with
   | .inl r => some (.inr (.inl r))
   | .inr _ =>
    some (.inl (IntKind.i64.wrap (v74 + (1 : Int))))
  else
   some (.inr (.inr ()))
noncomputable def QY (y41 : Task) (a0 : Flat) (f1 : Flat → Arg → Clock → Option Bool) : Int → Option (Int ⊕ (Bool ⊕ Unit))
 | v56 =>
  if (decide (v56 < ((List.length y41.args : Nat) : Int))) then
   ((qB y41.args v56).bind fun y62 =>
   (f1 a0 y62 y41.clock).bind fun y64 =>
   if (!y64) then
    some (.inl false)
   else
    some (.inr ()) : Option (Bool ⊕ Unit)).bind fun x => match x with
   | .inl r => some (.inr (.inl r))
   | .inr _ =>
    some (.inl (IntKind.i64.wrap (v56 + (1 : Int))))
  else
   some (.inr (.inr ()))
noncomputable def QZ (a0 : Flat) (f1 : Flat → Arg → Clock → Option Bool) : Int → Option (Int ⊕ (Bool ⊕ Unit))
 | v35 =>
  if (decide (v35 < ((List.length a0.tasks : Nat) : Int))) then
   ((qB a0.tasks v35).bind fun y41 =>
   (if (((decide (y41.node < (0 : Int))) || (decide (((List.length a0.nodes : Nat) : Int) ≤ y41.node))) || (decide (((List.length y41.args : Nat) : Int) = (0 : Int)))) then
    some false
   else
    (qB a0.nodes y41.node).bind fun y44 =>
    some (!decide (((List.length y41.args : Nat) : Int) = ((List.length y44.params : Nat) : Int)))).bind fun w46 =>
   if ((((decide (y41.node < (0 : Int))) || (decide (((List.length a0.nodes : Nat) : Int) ≤ y41.node))) || (decide (((List.length y41.args : Nat) : Int) = (0 : Int)))) || w46) then
    some (.inl false)
   else
    (qz (QY y41 a0 f1) (0 : Int) : Option (Bool ⊕ Unit)).bind fun x => match x with
    | .inl r => some (.inl r)
    | .inr _ =>
     some (.inr ()) : Option (Bool ⊕ Unit)).bind fun x => match x with
   | .inl r => some (.inr (.inl r))
   | .inr _ =>
    some (.inl (IntKind.i64.wrap (v35 + (1 : Int))))
  else
   some (.inr (.inr ()))
noncomputable def Za (a0 : Flat) : Int → Option (Int ⊕ (Bool ⊕ Unit))
 | v20 =>
  if (decide (v20 < ((List.length a0.nodes : Nat) : Int))) then
   ((qB a0.nodes v20).bind fun y26 =>
   if ((decide (y26.budget < (1 : Int))) || (decide ((1000 : Int) < y26.budget))) then
    some (.inl false)
   else
    some (.inr ()) : Option (Bool ⊕ Unit)).bind fun x => match x with
   | .inl r => some (.inr (.inl r))
   | .inr _ =>
    some (.inl (IntKind.i64.wrap (v20 + (1 : Int))))
  else
   some (.inr (.inr ()))
noncomputable def Zb (a0 : Flat) (f0 : Clock → Option Bool) : Int → Option (Int ⊕ (Bool ⊕ Unit))
 | v4 =>
  if (decide (v4 < ((List.length a0.inputs : Nat) : Int))) then
   ((qB a0.inputs v4).bind fun y10 =>
   (f0 y10).bind fun y12 =>
   if (!y12) then
    some (.inl false)
   else
    some (.inr ()) : Option (Bool ⊕ Unit)).bind fun x => match x with
   | .inl r => some (.inr (.inl r))
   | .inr _ =>
    some (.inl (IntKind.i64.wrap (v4 + (1 : Int))))
  else
   some (.inr (.inr ()))
noncomputable def B_ref08_Right (f0 : Clock → Option Bool) (f1 : Flat → Arg → Clock → Option Bool) (a0 : Flat) : Option Bool :=
 if (decide ((30 : Int) < ((List.length a0.tasks : Nat) : Int))) then
  some false
 else
  (qz (Zb a0 f0) (0 : Int) : Option (Bool ⊕ Unit)).bind fun x => match x with
  | .inl r => some r
  | .inr _ =>
   (qz (Za a0) (0 : Int) : Option (Bool ⊕ Unit)).bind fun x => match x with
   | .inl r => some r
   | .inr _ =>
    (qz (QZ a0 f1) (0 : Int) : Option (Bool ⊕ Unit)).bind fun x => match x with
    | .inl r => some r
    | .inr _ =>
     (qz (QX a0 f1) (0 : Int) : Option (Bool ⊕ Unit)).bind fun x => match x with
     | .inl r => some r
     | .inr _ =>
      some true
theorem W_ref08_Right (f0 f1) (S0 : Sat_ref02_Right f0) (S1 : Sat_ref08_fits f1) : Sat_ref08_Right (B_ref08_Right f0 f1) := by
 intro a0 r h σ K hK;refine qZ Try.func21 rfl rfl (by kernel_rfl) ?_;unfold B_ref08_Right at h;have hP := Pre.refl σ;have E0 : qD [(.ag (Flat.cl a0))] 0 = (.ag (Flat.cl a0)) := rfl;have TT := cj5 Arg.cle Clock.cle Expr.rlen Flat.cle (QJ Node.cle T_2 T_22 T_3 T_33 T_39 T_43 T_46 T_47 T_49 T_59 T_61 T_66 T_68 T_73 T_9 T_97 T_99 Task.cle Tell.cle);refine qk (fun e s => ∃ i1 : Nat, Bx σ s i1 49 (Flat.cl a0) ∧ eP e 1 i1 ∧ Pre σ s) ?_ ?_
 ·refine w_x (cj2 E0 TT) ?_;exact qg ⟨σ.length, (Bx.new hP _ _), (xv (cj2 E0 TT)), (hP.app _)⟩
 rintro e s ⟨i1, X1, E1, hP⟩
 refine qm (qe (w_x (cj3 E1 X1.get TT) ?_));refine qf (qe ?_);rcases qj h with ⟨hb1, h⟩ | ⟨hb1, h⟩
 ·refine xt hb1 (qe (w_x Expr.rlen ?_));refine qf (qp (qW ?_));obtain rfl := qa h;exact qr (fun _ => rfl) (xr (rs := #[.tmp 2]) TT) hP (.refl _) (.v _) hK
 ·refine xf hb1 (qn (qf (qm (qe (w_x Expr.rlen ?_)))));refine qf ?_;obtain ⟨x2, h3, h⟩ := qb h;refine qk (fun e s => .inr () = x2 ∧ Bx σ s i1 49 (Flat.cl a0) ∧ eP e 1 i1 ∧ Pre σ s) ?_ ?_
  ·refine qo (qH h3 (fun v e s => ∃ v4, v4 = v ∧ Bx σ s i1 49 (Flat.cl a0) ∧ eP e 1 i1 ∧ eI e 3 v4 ∧ Pre σ s) ⟨_, WkE.refl _, _, rfl, X1, E1, (xv TT), hP⟩ ?_)
   rintro v x5 e s hf6 ⟨v4, rfl, X1, E1, E3, hP⟩
   unfold Zb at hf6;(try dsimp only at hf6);refine qm (qe (w_x (cj4 E1 E3 X1.get TT) ?_));refine qf (qe ?_);rcases qj hf6 with ⟨hb7, hf6⟩ | ⟨hb7, hf6⟩
   ·refine xt hb7 (qn (qf ?_));obtain ⟨x8, h9, hf6⟩ := qb hf6;refine qk (fun e s => .inr () = x8 ∧ Bx σ s i1 49 (Flat.cl a0) ∧ eP e 1 i1 ∧ eI e 3 v4 ∧ Pre σ s) ?_ ?_
    ·refine qo (qe ?_);obtain ⟨y10, h11, h9⟩ := qb h9;obtain ⟨y12, h13, h9⟩ := qb h9;have R14 := qA (f := Clock.cl) (qh h11).2;have q1 := cj6 E1 E3 X1.get R14 (qh h11).1 TT;refine w_x q1 ?_;refine S0 _ _ h13 _ _  ?_;refine w_y q1 ?_;refine qf ?_;rcases qj h9 with ⟨hb15, h9⟩ | ⟨hb15, h9⟩
     ·refine xt hb15 (qe (w_x Expr.rlen ?_));refine qf (qp (qx ?_));obtain rfl := qa h9;refine qC ?_;(try dsimp only at hf6);obtain rfl := qa hf6;refine zk rfl fun hr16 => ?_;obtain rfl := hr16;refine qx (qC ?_);(try dsimp only at h);obtain rfl := qa h;exact qr (fun _ => rfl) (xr (rs := #[.tmp 2]) TT) hP (.refl _) (.v _) hK
     ·refine xf hb15 (qn (qP ?_));obtain rfl := qa h9;exact qg ⟨rfl, X1, E1, E3, hP⟩
    rintro e s ⟨rfl, X1, E1, E3, hP⟩
    (try dsimp only at hf6);refine w_x (cj2 E3 TT) ?_;obtain rfl := qa hf6;exact qT rfl ⟨_, rfl, X1, E1, (xv (cj2 E3 TT)), hP⟩
   ·refine xf hb7 (qE (qM ?_));obtain rfl := qa hf6;refine qS rfl fun hr17 => ?_;obtain rfl := hr17;exact qK (qg ⟨rfl, X1, E1, hP⟩)
  rintro e s ⟨rfl, X1, E1, hP⟩
  (try dsimp only at h);refine qm (qe (w_x Expr.rlen ?_));refine qf ?_;obtain ⟨x18, h19, h⟩ := qb h;refine qk (fun e s => .inr () = x18 ∧ Bx σ s i1 49 (Flat.cl a0) ∧ eP e 1 i1 ∧ Pre σ s) ?_ ?_
  ·refine qo (qH h19 (fun v e s => ∃ v20, v20 = v ∧ Bx σ s i1 49 (Flat.cl a0) ∧ eP e 1 i1 ∧ eI e 4 v20 ∧ Pre σ s) ⟨_, WkE.refl _, _, rfl, X1, E1, (xv TT), hP⟩ ?_)
   rintro v x21 e s hf22 ⟨v20, rfl, X1, E1, E4, hP⟩
   unfold Za at hf22;(try dsimp only at hf22);refine qm (qe (w_x (cj4 E1 E4 X1.get TT) ?_));refine qf (qe ?_);rcases qj hf22 with ⟨hb23, hf22⟩ | ⟨hb23, hf22⟩
   ·refine xt hb23 (qn (qf ?_));obtain ⟨x24, h25, hf22⟩ := qb hf22;refine qk (fun e s => .inr () = x24 ∧ Bx σ s i1 49 (Flat.cl a0) ∧ eP e 1 i1 ∧ eI e 4 v20 ∧ Pre σ s) ?_ ?_
    ·refine qo ?_;obtain ⟨y26, h27, h25⟩ := qb h25;refine qk (fun e s => Bx σ s i1 49 (Flat.cl a0) ∧ eP e 1 i1 ∧ eI e 4 v20 ∧ eB e 50 ((decide (y26.budget < (1 : Int))) || (decide ((1000 : Int) < y26.budget))) ∧ Pre σ s) ?_ ?_
     ·have R28 := qA (f := Node.cl) (qh h27).2;cases hb29 : (decide (y26.budget < (1 : Int)))
      ·have q2 := cj7 E1 E4 X1.get R28 (qh h27).1 hb29 TT;refine w_x q2 ?_;exact qg ⟨X1, E1, E4, (xv q2), hP⟩
      ·have q3 := cj7 E1 E4 X1.get R28 (qh h27).1 hb29 TT;refine w_x q3 ?_;exact qg ⟨X1, E1, E4, (xv q3), hP⟩
     rintro e s ⟨X1, E1, E4, E50, hP⟩
     rcases qj h25 with ⟨hb30, h25⟩ | ⟨hb30, h25⟩
     ·refine xt (cj2 E50 hb30) (qe (w_x Expr.rlen ?_));refine qf (qp (qx ?_));obtain rfl := qa h25;refine qC ?_;(try dsimp only at hf22);obtain rfl := qa hf22;refine zk rfl fun hr31 => ?_;obtain rfl := hr31;refine qx (qC ?_);(try dsimp only at h);obtain rfl := qa h;exact qr (fun _ => rfl) (xr (rs := #[.tmp 2]) TT) hP (.refl _) (.v _) hK
     ·refine xf (cj2 E50 hb30) (qn (qP ?_));obtain rfl := qa h25;exact qg ⟨rfl, X1, E1, E4, hP⟩
    rintro e s ⟨rfl, X1, E1, E4, hP⟩
    (try dsimp only at hf22);refine w_x (cj2 E4 TT) ?_;obtain rfl := qa hf22;exact qT rfl ⟨_, rfl, X1, E1, (xv (cj2 E4 TT)), hP⟩
   ·refine xf hb23 (qE (qM ?_));obtain rfl := qa hf22;refine qS rfl fun hr32 => ?_;obtain rfl := hr32;exact qK (qg ⟨rfl, X1, E1, hP⟩)
  rintro e s ⟨rfl, X1, E1, hP⟩
  (try dsimp only at h);refine qm (qe (w_x Expr.rlen ?_));refine qf ?_;obtain ⟨x33, h34, h⟩ := qb h;refine qk (fun e s => .inr () = x33 ∧ Bx σ s i1 49 (Flat.cl a0) ∧ eP e 1 i1 ∧ Pre σ s) ?_ ?_
  ·refine qo (qH h34 (fun v e s => ∃ v35, v35 = v ∧ Bx σ s i1 49 (Flat.cl a0) ∧ eP e 1 i1 ∧ eI e 5 v35 ∧ Pre σ s) ⟨_, WkE.refl _, _, rfl, X1, E1, (xv TT), hP⟩ ?_)
   rintro v x36 e s hf37 ⟨v35, rfl, X1, E1, E5, hP⟩
   unfold QZ at hf37;(try dsimp only at hf37);refine qm (qe (w_x (cj4 E1 E5 X1.get TT) ?_));refine qf (qe ?_);rcases qj hf37 with ⟨hb38, hf37⟩ | ⟨hb38, hf37⟩
   ·refine xt hb38 (qn (qf ?_));obtain ⟨x39, h40, hf37⟩ := qb hf37;refine qk (fun e s => .inr () = x39 ∧ Bx σ s i1 49 (Flat.cl a0) ∧ eP e 1 i1 ∧ eI e 5 v35 ∧ Pre σ s) ?_ ?_
    ·refine qo ?_;obtain ⟨y41, h42, h40⟩ := qb h40;refine qk (fun e s => ∃ i6 : Nat, Bx σ s i1 49 (Flat.cl a0) ∧ Bx σ s i6 61 (Task.cl y41) ∧ eP e 1 i1 ∧ eI e 5 v35 ∧ eP e 6 i6 ∧ Pre σ s) ?_ ?_
     ·have R43 := qA (f := Task.cl) (qh h42).2;have q4 := cj6 E1 E5 X1.g3 R43 (qh h42).1 TT;refine w_x q4 ?_;exact qg ⟨s.length, (X1.app _), (Bx.new hP _ _), E1, E5, (xv q4), (hP.app _)⟩
     rintro e s ⟨i6, X1, X6, E1, E5, E6, hP⟩
     refine qm ?_;obtain ⟨w46, h47, h40⟩ := qb h40;refine qk (fun e s => Bx σ s i1 49 (Flat.cl a0) ∧ Bx σ s i6 61 (Task.cl y41) ∧ eP e 1 i1 ∧ eI e 5 v35 ∧ eP e 6 i6 ∧ eB e 93 ((((decide (y41.node < (0 : Int))) || (decide (((List.length a0.nodes : Nat) : Int) ≤ y41.node))) || (decide (((List.length y41.args : Nat) : Int) = (0 : Int)))) || w46) ∧ Pre σ s) ?_ ?_
     ·cases hb48 : (decide (y41.node < (0 : Int)))
      ·cases hb49 : (decide (((List.length a0.nodes : Nat) : Int) ≤ y41.node))
       ·cases hb50 : (decide (((List.length y41.args : Nat) : Int) = (0 : Int)))
        ·replace h47 := qU (by simp only [hb48, hb49, hb50, Bool.or_true, Bool.true_or, Bool.or_false, Bool.false_or, Bool.and_true, Bool.true_and, Bool.and_false, Bool.false_and, Bool.not_true, Bool.not_false, cond_true, cond_false]) h47;obtain ⟨y44, h45, h47⟩ := qb h47;obtain rfl := qa h47;have R51 := qA (f := Node.cl) (qh h45).2;have q5 := Qy E1 E6 X1.get X6.get hb48 hb49 hb50 R51 (qh h45).1 TT;refine Jb q5 ?_;exact qg ⟨X1, X6, E1, E5, E6, (xv q5), hP⟩
        ·replace h47 := qN (by simp only [hb48, hb49, hb50, Bool.or_true, Bool.true_or, Bool.or_false, Bool.false_or, Bool.and_true, Bool.true_and, Bool.and_false, Bool.false_and, Bool.not_true, Bool.not_false, cond_true, cond_false]) h47;obtain rfl := qa h47;have q6 := cj8 E1 E6 X1.get X6.get hb48 hb49 hb50 TT;refine Jb q6 ?_;exact qg ⟨X1, X6, E1, E5, E6, (xv q6), hP⟩
       ·replace h47 := qN (by simp only [hb48, hb49, Bool.or_true, Bool.true_or, Bool.or_false, Bool.false_or, Bool.and_true, Bool.true_and, Bool.and_false, Bool.false_and, Bool.not_true, Bool.not_false, cond_true, cond_false]) h47;obtain rfl := qa h47;have q7 := cj7 E1 E6 X1.get X6.get hb48 hb49 TT;refine Jb q7 ?_;exact qg ⟨X1, X6, E1, E5, E6, (xv q7), hP⟩
      ·replace h47 := qN (by simp only [hb48, Bool.or_true, Bool.true_or, Bool.or_false, Bool.false_or, Bool.and_true, Bool.true_and, Bool.and_false, Bool.false_and, Bool.not_true, Bool.not_false, cond_true, cond_false]) h47;obtain rfl := qa h47;have q8 := cj6 E1 E6 X1.get X6.get hb48 TT;refine Jb q8 ?_;exact qg ⟨X1, X6, E1, E5, E6, (xv q8), hP⟩
     rintro e s ⟨X1, X6, E1, E5, E6, E93, hP⟩
     refine qe ?_;rcases qj h40 with ⟨hb52, h40⟩ | ⟨hb52, h40⟩
     ·refine xt (cj2 E93 hb52) (qe (w_x Expr.rlen ?_));refine qf (qp (qW (qx ?_)));obtain rfl := qa h40;refine qC ?_;(try dsimp only at hf37);obtain rfl := qa hf37;refine zk rfl fun hr53 => ?_;obtain rfl := hr53;refine qx (qC ?_);(try dsimp only at h);obtain rfl := qa h;exact qr (fun _ => rfl) (xr (rs := #[.tmp 2]) TT) hP (.refl _) (.v _) hK
     ·refine xf (cj2 E93 hb52) (qn (qf (qe (w_x Expr.rlen ?_))));refine qf ?_;obtain ⟨x54, h55, h40⟩ := qb h40;refine Qd (fun e s => .inr () = x54 ∧ Bx σ s i1 49 (Flat.cl a0) ∧ eP e 1 i1 ∧ eI e 5 v35 ∧ Pre σ s) ?_ ?_
      ·refine qo (qH h55 (fun v e s => ∃ v56, v56 = v ∧ Bx σ s i1 49 (Flat.cl a0) ∧ Bx σ s i6 61 (Task.cl y41) ∧ eP e 1 i1 ∧ eI e 5 v35 ∧ eP e 6 i6 ∧ eI e 7 v56 ∧ Pre σ s) ⟨_, WkE.refl _, _, rfl, X1, X6, E1, E5, E6, (xv TT), hP⟩ ?_)
       rintro v x57 e s hf58 ⟨v56, rfl, X1, X6, E1, E5, E6, E7, hP⟩
       unfold QY at hf58;(try dsimp only at hf58);refine qm (qe (w_x (cj4 E6 E7 X6.get TT) ?_));refine qf (qe ?_);rcases qj hf58 with ⟨hb59, hf58⟩ | ⟨hb59, hf58⟩
       ·refine xt hb59 (qn (qf ?_));obtain ⟨x60, h61, hf58⟩ := qb hf58;refine qk (fun e s => .inr () = x60 ∧ Bx σ s i1 49 (Flat.cl a0) ∧ Bx σ s i6 61 (Task.cl y41) ∧ eP e 1 i1 ∧ eI e 5 v35 ∧ eP e 6 i6 ∧ eI e 7 v56 ∧ Pre σ s) ?_ ?_
        ·refine qo ?_;obtain ⟨y62, h63, h61⟩ := qb h61;obtain ⟨y64, h65, h61⟩ := qb h61;refine qk (fun e s => Bx σ s i1 49 (Flat.cl a0) ∧ Bx σ s i6 61 (Task.cl y41) ∧ eP e 1 i1 ∧ eI e 5 v35 ∧ eP e 6 i6 ∧ eI e 7 v56 ∧ eB e 110 (!y64) ∧ Pre σ s) ?_ ?_
         ·have R66 := qA (f := Arg.cl) (qh h63).2;have q9 := cj8 E1 E6 E7 X1.get X6.get R66 (qh h63).1 TT;refine zh 8 0 q9 ?_;refine qY q9 ?_;refine S1 _ _ _ _ h65 _ _  ?_;refine w_y q9 ?_;exact qg ⟨X1, X6, E1, E5, E6, E7, (xv q9), hP⟩
         rintro e s ⟨X1, X6, E1, E5, E6, E7, E110, hP⟩
         rcases qj h61 with ⟨hb67, h61⟩ | ⟨hb67, h61⟩
         ·refine xt (cj2 E110 hb67) (qe (w_x Expr.rlen ?_));refine qf (qp (qx ?_));obtain rfl := qa h61;refine qC ?_;(try dsimp only at hf58);obtain rfl := qa hf58;refine zk rfl fun hr68 => ?_;obtain rfl := hr68;refine qx (JX ?_);(try dsimp only at h40);refine qx ?_;obtain rfl := qa h40;refine qC ?_;(try dsimp only at hf37);obtain rfl := qa hf37;refine zk rfl fun hr69 => ?_;obtain rfl := hr69;refine qx (qC ?_);(try dsimp only at h);obtain rfl := qa h;exact qr (fun _ => rfl) (xr (rs := #[.tmp 2]) TT) hP (.refl _) (.v _) hK
         ·refine xf (cj2 E110 hb67) (qn (qP ?_));obtain rfl := qa h61;exact qg ⟨rfl, X1, X6, E1, E5, E6, E7, hP⟩
        rintro e s ⟨rfl, X1, X6, E1, E5, E6, E7, hP⟩
        (try dsimp only at hf58);refine w_x (cj2 E7 TT) ?_;obtain rfl := qa hf58;exact qT rfl ⟨_, rfl, X1, X6, E1, E5, E6, (xv (cj2 E7 TT)), hP⟩
       ·refine xf hb59 (qE (qM ?_));obtain rfl := qa hf58;refine qS rfl fun hr70 => ?_;obtain rfl := hr70;exact qK (zr ⟨rfl, X1, E1, E5, hP⟩)
      rintro e s ⟨rfl, X1, E1, E5, hP⟩
      (try dsimp only at h40);refine qP ?_;obtain rfl := qa h40;exact qg ⟨rfl, X1, E1, E5, hP⟩
    rintro e s ⟨rfl, X1, E1, E5, hP⟩
    (try dsimp only at hf37);refine w_x (cj2 E5 TT) ?_;obtain rfl := qa hf37;exact qT rfl ⟨_, rfl, X1, E1, (xv (cj2 E5 TT)), hP⟩
   ·refine xf hb38 (qE (qM ?_));obtain rfl := qa hf37;refine qS rfl fun hr71 => ?_;obtain rfl := hr71;exact qK (qg ⟨rfl, X1, E1, hP⟩)
  rintro e s ⟨rfl, X1, E1, hP⟩
  (try dsimp only at h);refine qm (qe (w_x Expr.rlen ?_));refine qf ?_;obtain ⟨x72, h73, h⟩ := qb h;refine qk (fun e s => .inr () = x72 ∧ Pre σ s) ?_ ?_
  ·refine qo (qH h73 (fun v e s => ∃ v74, v74 = v ∧ Bx σ s i1 49 (Flat.cl a0) ∧ eP e 1 i1 ∧ eI e 8 v74 ∧ Pre σ s) ⟨_, WkE.refl _, _, rfl, X1, E1, (xv TT), hP⟩ ?_)
   rintro v x75 e s hf76 ⟨v74, rfl, X1, E1, E8, hP⟩
   unfold QX at hf76;(try dsimp only at hf76);refine qm (qe (w_x (cj4 E1 E8 X1.get TT) ?_));refine qf (qe ?_);rcases qj hf76 with ⟨hb77, hf76⟩ | ⟨hb77, hf76⟩
   ·refine xt hb77 (qn (qf ?_));obtain ⟨x78, h79, hf76⟩ := qb hf76;refine qk (fun e s => .inr () = x78 ∧ Bx σ s i1 49 (Flat.cl a0) ∧ eP e 1 i1 ∧ eI e 8 v74 ∧ Pre σ s) ?_ ?_
    ·refine qo ?_;obtain ⟨y80, h81, h79⟩ := qb h79;refine qk (fun e s => ∃ i9 : Nat, Bx σ s i1 49 (Flat.cl a0) ∧ Bx σ s i9 73 (Tell.cl y80) ∧ eP e 1 i1 ∧ eI e 8 v74 ∧ eP e 9 i9 ∧ Pre σ s) ?_ ?_
     ·have R82 := qA (f := Tell.cl) (qh h81).2;have q10 := cj6 E1 E8 X1.g3 R82 (qh h81).1 TT;refine w_x q10 ?_;exact qg ⟨s.length, (X1.app _), (Bx.new hP _ _), E1, E8, (xv q10), (hP.app _)⟩
     rintro e s ⟨i9, X1, X9, E1, E8, E9, hP⟩
     obtain ⟨w85, h86, h79⟩ := qb h79;refine qk (fun e s => Bx σ s i1 49 (Flat.cl a0) ∧ eP e 1 i1 ∧ eI e 8 v74 ∧ eB e 139 (((decide (y80.deadline < (1 : Int))) || (decide ((1000 : Int) < y80.deadline))) || w85) ∧ Pre σ s) ?_ ?_
     ·cases hb87 : (decide (y80.deadline < (1 : Int)))
      ·cases hb88 : (decide ((1000 : Int) < y80.deadline))
       ·replace h86 := qU (by simp only [hb87, hb88, Bool.or_true, Bool.true_or, Bool.or_false, Bool.false_or, Bool.and_true, Bool.true_and, Bool.and_false, Bool.false_and, Bool.not_true, Bool.not_false, cond_true, cond_false]) h86;obtain ⟨y83, h84, h86⟩ := qb h86;obtain rfl := qa h86;have q11 := cj7 E1 E9 X1.get X9.get hb87 hb88 TT;refine w_x q11 ?_;refine S1 _ _ _ _ h84 _ _  ?_;refine w_y q11 ?_;exact qg ⟨X1, E1, E8, (xv q11), hP⟩
       ·replace h86 := qN (by simp only [hb87, hb88, Bool.or_true, Bool.true_or, Bool.or_false, Bool.false_or, Bool.and_true, Bool.true_and, Bool.and_false, Bool.false_and, Bool.not_true, Bool.not_false, cond_true, cond_false]) h86;obtain rfl := qa h86;have q12 := cj7 E1 E9 X1.get X9.get hb87 hb88 TT;refine w_x q12 ?_;exact qg ⟨X1, E1, E8, (xv q12), hP⟩
      ·replace h86 := qN (by simp only [hb87, Bool.or_true, Bool.true_or, Bool.or_false, Bool.false_or, Bool.and_true, Bool.true_and, Bool.and_false, Bool.false_and, Bool.not_true, Bool.not_false, cond_true, cond_false]) h86;obtain rfl := qa h86;have q13 := cj6 E1 E9 X1.get X9.get hb87 TT;refine w_x q13 ?_;exact qg ⟨X1, E1, E8, (xv q13), hP⟩
     rintro e s ⟨X1, E1, E8, E139, hP⟩
     rcases qj h79 with ⟨hb89, h79⟩ | ⟨hb89, h79⟩
     ·refine xt (cj2 E139 hb89) (qe (w_x Expr.rlen ?_));refine qf (qp (qx ?_));obtain rfl := qa h79;refine qC ?_;(try dsimp only at hf76);obtain rfl := qa hf76;refine zk rfl fun hr90 => ?_;obtain rfl := hr90;refine qx (qC ?_);(try dsimp only at h);obtain rfl := qa h;exact qr (fun _ => rfl) (xr (rs := #[.tmp 2]) TT) hP (.refl _) (.v _) hK
     ·refine xf (cj2 E139 hb89) (qn (qP ?_));obtain rfl := qa h79;exact qg ⟨rfl, X1, E1, E8, hP⟩
    rintro e s ⟨rfl, X1, E1, E8, hP⟩
    (try dsimp only at hf76);refine w_x (cj2 E8 TT) ?_;obtain rfl := qa hf76;exact qT rfl ⟨_, rfl, X1, E1, (xv (cj2 E8 TT)), hP⟩
   ·refine xf hb77 (qE (qM ?_));obtain rfl := qa hf76;refine qS rfl fun hr91 => ?_;obtain rfl := hr91;exact qK (qg ⟨rfl, hP⟩)
  rintro e s ⟨rfl, hP⟩
  (try dsimp only at h);refine qe (w_x Expr.rlen ?_);refine qf (qp ?_);obtain rfl := qa h;exact qr (fun _ => rfl) (xr (rs := #[.tmp 2]) TT) hP (.refl _) (.v _) hK
noncomputable def ZX (y3 : Expr) (a0 : Program) (a1 : (List qd)) (a2 : qd) (a3 : Task) (f1 : Program → (List qd) → qd → Int → Option (Arg × Bool)) (f3 : Expr → qd → Option ((List qd) × Int)) (f2 : Arg → Arg → Option Bool) : (Int × Int) → Option ((Int × Int) ⊕ (Bool ⊕ Unit))
 | (v8, v9) =>
  if (decide (v9 < ((List.length y3.args : Nat) : Int))) then
   ((f1 a0 a1 (qd.mk a2.flow (IntKind.i64.wrap (a2.at_ + v8))) (5000 : Int)).bind fun y16 =>
   (if ((!y16.2) || (decide (((List.length a3.args : Nat) : Int) ≤ v9))) then
    some false
   else
    (qB a3.args v9).bind fun y18 =>
    (f2 y18 y16.1).bind fun y20 =>
    some (!y20)).bind fun w22 =>
   if (((!y16.2) || (decide (((List.length a3.args : Nat) : Int) ≤ v9))) || w22) then
    some (.inl false)
   else
    (qB y3.args v9).bind fun y29 =>
    (f3 y29 (qd.mk (0 : Int) (0 : Int))).bind fun y31 =>
    some (.inr (IntKind.i64.wrap (v8 + y31.2))) : Option (Bool ⊕ Int)).bind fun x => match x with
   | .inl r => some (.inr (.inl r))
   | .inr v15 =>
    some (.inl (v15, (IntKind.i64.wrap (v9 + (1 : Int)))))
  else
   some (.inr (.inr ()))
noncomputable def B_law08_args (f0 : Expr → Int → Option Expr) (f1 : Program → (List qd) → qd → Int → Option (Arg × Bool)) (f2 : Arg → Arg → Option Bool) (f3 : Expr → qd → Option ((List qd) × Int)) (a0 : Program) (a1 : (List qd)) (a2 : qd) (a3 : Task) : Option Bool :=
 (qB a0.flows a2.flow).bind fun y1 =>
 (f0 y1.e a2.at_).bind fun y3 =>
 (qz (ZX y3 a0 a1 a2 a3 f1 f3 f2) ((1 : Int), (0 : Int)) : Option (Bool ⊕ Unit)).bind fun x => match x with
 | .inl r => some r
 | .inr _ =>
  some true
theorem W_law08_args (f0 f1 f2 f3) (S0 : Sat_ref08_Get f0) (S1 : Sat_ref08_Arg f1) (S2 : Sat_ref08_Same f2) (S3 : Sat_ref08_Calls f3) : Sat_law08_args (B_law08_args f0 f1 f2 f3) := by
 intro a0 a1 a2 a3 r h σ K hK;refine qZ Try.func24 rfl rfl (by kernel_rfl) ?_;unfold B_law08_args at h;have hP := Pre.refl σ;have E0 : qD [(.ag (Program.cl a0)), (.sl (List.map qd.cl a1)), (.ag (qd.cl a2)), (.ag (Task.cl a3))] 0 = (.ag (Program.cl a0)) := rfl;have E1 : qD [(.ag (Program.cl a0)), (.sl (List.map qd.cl a1)), (.ag (qd.cl a2)), (.ag (Task.cl a3))] 1 = (.sl (List.map qd.cl a1)) := rfl;have E2 : qD [(.ag (Program.cl a0)), (.sl (List.map qd.cl a1)), (.ag (qd.cl a2)), (.ag (Task.cl a3))] 2 = (.ag (qd.cl a2)) := rfl;have E3 : qD [(.ag (Program.cl a0)), (.sl (List.map qd.cl a1)), (.ag (qd.cl a2)), (.ag (Task.cl a3))] 3 = (.ag (Task.cl a3)) := rfl;have TT := cj6 Arg.cle Expr.cle Expr.rlen Flow.cle Program.cle (QJ T_2 T_22 T_23 T_24 T_25 T_27 T_3 T_37 T_39 T_41 T_43 T_52 T_58 T_59 T_61 T_66 T_68 T_9 Task.cle qd.cle);refine qk (fun e s => ∃ i4 i6 i7 : Nat, Bx σ s i4 27 (Program.cl a0) ∧ Bx σ s i6 58 (qd.cl a2) ∧ Bx σ s i7 61 (Task.cl a3) ∧ eS e 1 qd.cl a1 ∧ eP e 4 i4 ∧ eP e 6 i6 ∧ eP e 7 i7 ∧ Pre σ s) ?_ ?_
 ·have q1 := cj4 E0 E2 E3 TT;refine w_x q1 ?_;exact qg ⟨σ.length, (σ ++ [some (AObj.box 27 (Program.cl a0))]).length, ((σ ++ [some (AObj.box 27 (Program.cl a0))]) ++ [some (AObj.box 58 (qd.cl a2))]).length, (((Bx.new hP 27 (Program.cl a0)).app [some (AObj.box 58 (qd.cl a2))]).app [some (AObj.box 61 (Task.cl a3))]), ((Bx.new (hP.app _) 58 (qd.cl a2)).app [some (AObj.box 61 (Task.cl a3))]), (Bx.new ((hP.app _).app _) 61 (Task.cl a3)), E1, (xv q1), (xv q1), (xv q1), (((hP.app _).app _).app _)⟩
 rintro e s ⟨i4, i6, i7, X4, X6, X7, E1, E4, E6, E7, hP⟩
 obtain ⟨y1, h2, h⟩ := qb h;obtain ⟨y3, h4, h⟩ := qb h;refine qk (fun e s => ∃ i9 : Nat, Bx σ s i4 27 (Program.cl a0) ∧ Bx σ s i6 58 (qd.cl a2) ∧ Bx σ s i7 61 (Task.cl a3) ∧ Bx σ s i9 39 (Expr.cl y3) ∧ eS e 1 qd.cl a1 ∧ eP e 4 i4 ∧ eP e 6 i6 ∧ eP e 7 i7 ∧ eP e 9 i9 ∧ Pre σ s) ?_ ?_
 ·have R5 := qA (f := Flow.cl) (qh h2).2;have q2 := X6.app [some (AObj.box 39 (Expr.cl y3))];have q3 := X4.app [some (AObj.box 39 (Expr.cl y3))];have q4 := Bx.at hP (l := [some (AObj.box 39 (Expr.cl y3))]) (j := 0) (t := 39) (c := (Expr.cl y3)) rfl;have q5 := Qy E4 E6 X4.g3 X6.g3 R5 (qh h2).1 q3.get q2.get q4.get TT;refine zh 12 1 q5 ?_;refine S0 _ _ _ h4 _ _  ?_;refine Ql q5 ?_ ;refine qY q5 ?_;exact qg ⟨(s.length), q3, q2, (X7.app _), q4, E1, E4, E6, E7, (xv q5), (hP.app _)⟩
 rintro e s ⟨i9, X4, X6, X7, X9, E1, E4, E6, E7, E9, hP⟩
 refine qe (w_x Expr.rlen ?_);refine qf (qm (qe (w_x Expr.rlen ?_)));refine qf ?_;obtain ⟨x6, h7, h⟩ := qb h;refine qk (fun e s => .inr () = x6 ∧ Pre σ s) ?_ ?_
 ·refine qo (qH h7 (fun v e s => ∃ v8 v9, (v8, v9) = v ∧ Bx σ s i4 27 (Program.cl a0) ∧ Bx σ s i6 58 (qd.cl a2) ∧ Bx σ s i7 61 (Task.cl a3) ∧ Bx σ s i9 39 (Expr.cl y3) ∧ eS e 1 qd.cl a1 ∧ eP e 4 i4 ∧ eP e 6 i6 ∧ eP e 7 i7 ∧ eP e 9 i9 ∧ eI e 10 v8 ∧ eI e 11 v9 ∧ Pre σ s) ⟨_, WkE.refl _, _, _, rfl, X4, X6, X7, X9, E1, E4, E6, E7, E9, (xv TT), (xv TT), hP⟩ ?_)
  rintro v x10 e s hf11 ⟨v8, v9, rfl, X4, X6, X7, X9, E1, E4, E6, E7, E9, E10, E11, hP⟩
  unfold ZX at hf11;(try dsimp only at hf11);refine qm (qe (w_x (cj4 E9 E11 X9.get TT) ?_));refine qf (qe ?_);rcases qj hf11 with ⟨hb12, hf11⟩ | ⟨hb12, hf11⟩
  ·refine xt hb12 (qn (qf ?_));obtain ⟨x13, h14, hf11⟩ := qb hf11;refine qk (fun e s => ∃ v15 : Int, .inr v15 = x13 ∧ Bx σ s i4 27 (Program.cl a0) ∧ Bx σ s i6 58 (qd.cl a2) ∧ Bx σ s i7 61 (Task.cl a3) ∧ Bx σ s i9 39 (Expr.cl y3) ∧ eS e 1 qd.cl a1 ∧ eP e 4 i4 ∧ eP e 6 i6 ∧ eP e 7 i7 ∧ eP e 9 i9 ∧ eI e 10 v15 ∧ eI e 11 v9 ∧ Pre σ s) ?_ ?_
   ·refine qo ?_;obtain ⟨y16, h17, h14⟩ := qb h14;refine qk (fun e s => ∃ i12 : Nat, Bx σ s i12 68 (Arg.cl y16.1) ∧ Bx σ s i4 27 (Program.cl a0) ∧ Bx σ s i6 58 (qd.cl a2) ∧ Bx σ s i7 61 (Task.cl a3) ∧ Bx σ s i9 39 (Expr.cl y3) ∧ eS e 1 qd.cl a1 ∧ eP e 4 i4 ∧ eP e 6 i6 ∧ eP e 7 i7 ∧ eP e 9 i9 ∧ eI e 10 v8 ∧ eI e 11 v9 ∧ eP e 12 i12 ∧ eB e 13 y16.2 ∧ Pre σ s) ?_ ?_
    ·have q6 := cj7 E1 E4 E6 E10 X4.g3 X6.g3 TT;refine w_x q6 ?_;refine S1 _ _ _ _ _ h17 _ _  ?_;refine w_y q6 ?_;exact qg ⟨s.length, (Bx.new hP _ _), (X4.app _), (X6.app _), (X7.app _), (X9.app _), E1, E4, E6, E7, E9, E10, E11, (xv q6), (xv q6), (hP.app _)⟩
    rintro e s ⟨i12, X12, X4, X6, X7, X9, E1, E4, E6, E7, E9, E10, E11, E12, E13, hP⟩
    refine qm ?_;obtain ⟨w22, h23, h14⟩ := qb h14;refine qk (fun e s => Bx σ s i4 27 (Program.cl a0) ∧ Bx σ s i6 58 (qd.cl a2) ∧ Bx σ s i7 61 (Task.cl a3) ∧ Bx σ s i9 39 (Expr.cl y3) ∧ eS e 1 qd.cl a1 ∧ eP e 4 i4 ∧ eP e 6 i6 ∧ eP e 7 i7 ∧ eP e 9 i9 ∧ eI e 10 v8 ∧ eI e 11 v9 ∧ eB e 64 (((!y16.2) || (decide (((List.length a3.args : Nat) : Int) ≤ v9))) || w22) ∧ Pre σ s) ?_ ?_
    ·cases hb24 : (!y16.2)
     ·cases hb25 : (decide (((List.length a3.args : Nat) : Int) ≤ v9))
      ·replace h23 := qU (by simp only [hb24, hb25, Bool.or_true, Bool.true_or, Bool.or_false, Bool.false_or, Bool.and_true, Bool.true_and, Bool.and_false, Bool.false_and, Bool.not_true, Bool.not_false, cond_true, cond_false]) h23;obtain ⟨y18, h19, h23⟩ := qb h23;obtain ⟨y20, h21, h23⟩ := qb h23;obtain rfl := qa h23;have R26 := qA (f := Arg.cl) (qh h19).2;have q7 := qqp E7 E11 E12 E13 X12.get X7.get hb24 hb25 R26 (qh h19).1 TT;refine zh 16 0 q7 ?_;refine qY q7 ?_;refine S2 _ _ _ h21 _ _  ?_;refine w_y q7 ?_;exact qg ⟨X4, X6, X7, X9, E1, E4, E6, E7, E9, E10, E11, (xv q7), hP⟩
      ·replace h23 := qN (by simp only [hb24, hb25, Bool.or_true, Bool.true_or, Bool.or_false, Bool.false_or, Bool.and_true, Bool.true_and, Bool.and_false, Bool.false_and, Bool.not_true, Bool.not_false, cond_true, cond_false]) h23;obtain rfl := qa h23;have q8 := cj9 E7 E11 E12 E13 X12.get X7.get hb24 hb25 TT;refine zh 16 0 q8 ?_;refine qY q8 ?_;exact qg ⟨X4, X6, X7, X9, E1, E4, E6, E7, E9, E10, E11, (xv q8), hP⟩
     ·replace h23 := qN (by simp only [hb24, Bool.or_true, Bool.true_or, Bool.or_false, Bool.false_or, Bool.and_true, Bool.true_and, Bool.and_false, Bool.false_and, Bool.not_true, Bool.not_false, cond_true, cond_false]) h23;obtain rfl := qa h23;have q9 := cj8 E7 E11 E12 E13 X12.get X7.get hb24 TT;refine zh 16 0 q9 ?_;refine qY q9 ?_;exact qg ⟨X4, X6, X7, X9, E1, E4, E6, E7, E9, E10, E11, (xv q9), hP⟩
    rintro e s ⟨X4, X6, X7, X9, E1, E4, E6, E7, E9, E10, E11, E64, hP⟩
    refine qe ?_;rcases qj h14 with ⟨hb27, h14⟩ | ⟨hb27, h14⟩
    ·refine xt (cj2 E64 hb27) (qe (w_x Expr.rlen ?_));refine qf (qp (qW (qx ?_)));obtain rfl := qa h14;refine qC ?_;(try dsimp only at hf11);obtain rfl := qa hf11;refine zk rfl fun hr28 => ?_;obtain rfl := hr28;refine qx (qC ?_);(try dsimp only at h);obtain rfl := qa h;exact qr (fun _ => rfl) (xr (rs := #[.tmp 8]) TT) hP (.refl _) (.v _) hK
    ·refine xf (cj2 E64 hb27) (qn (qf (qe ?_)));obtain ⟨y29, h30, h14⟩ := qb h14;obtain ⟨y31, h32, h14⟩ := qb h14;have R33 : (Expr.rows y3.args)[(v9).toNat]? = some (Expr.cl y29) := Expr.rget (qh h30).2;have q10 := cj6 E9 E11 X9.get R33 (qh h30).1 TT;refine w_x q10 ?_;refine S3 _ _ _ h32 _ _  ?_;refine w_y q10 ?_;refine qf (w_x (cj2 E10 TT) ?_);refine qP ?_;obtain rfl := qa h14;exact qg ⟨_, rfl, X4, X6, X7, X9, E1, E4, E6, E7, E9, (xv (cj2 E10 TT)), E11, hP⟩
   rintro e s ⟨v15, rfl, X4, X6, X7, X9, E1, E4, E6, E7, E9, E10, E11, hP⟩
   (try dsimp only at hf11);refine w_x (cj2 E11 TT) ?_;obtain rfl := qa hf11;exact qT rfl ⟨_, _, rfl, X4, X6, X7, X9, E1, E4, E6, E7, E9, E10, (xv (cj2 E11 TT)), hP⟩
  ·refine xf hb12 (qE (qM ?_));obtain rfl := qa hf11;refine qS rfl fun hr34 => ?_;obtain rfl := hr34;exact qK (qg ⟨rfl, hP⟩)
 rintro e s ⟨rfl, hP⟩
 (try dsimp only at h);refine qe (w_x Expr.rlen ?_);refine qf (qp ?_);obtain rfl := qa h;exact qr (fun _ => rfl) (xr (rs := #[.tmp 8]) TT) hP (.refl _) (.v _) hK
noncomputable def ZI (a0 : Arg) (a1 : Arg) : Int → Option (Int ⊕ (Bool ⊕ Unit))
 | v5 =>
  if (decide (v5 < ((List.length a0.ops : Nat) : Int))) then
   ((qB a0.ops v5).bind fun y11 =>
   (qB a1.ops v5).bind fun y13 =>
   if (!(decide (y11.kind = y13.kind) && (decide (y11.n = y13.n) && (decide (y11.d = y13.d))))) then
    some (.inl false)
   else
    some (.inr ()) : Option (Bool ⊕ Unit)).bind fun x => match x with
   | .inl r => some (.inr (.inl r))
   | .inr _ =>
    some (.inl (IntKind.i64.wrap (v5 + (1 : Int))))
  else
   some (.inr (.inr ()))
noncomputable def B_ref08_Same (a0 : Arg) (a1 : Arg) : Option Bool :=
 if ((!decide (a0.src = a1.src)) || (!decide (((List.length a0.ops : Nat) : Int) = ((List.length a1.ops : Nat) : Int)))) then
  some false
 else
  (qz (ZI a0 a1) (0 : Int) : Option (Bool ⊕ Unit)).bind fun x => match x with
  | .inl r => some r
  | .inr _ =>
   some true
theorem W_ref08_Same : Sat_ref08_Same (B_ref08_Same) := by
 intro a0 a1 r h σ K hK;refine qZ Try.func27 rfl rfl (by kernel_rfl) ?_;unfold B_ref08_Same at h;have hP := Pre.refl σ;have E0 : qD [(.ag (Arg.cl a0)), (.ag (Arg.cl a1))] 0 = (.ag (Arg.cl a0)) := rfl;have E1 : qD [(.ag (Arg.cl a0)), (.ag (Arg.cl a1))] 1 = (.ag (Arg.cl a1)) := rfl;have TT := cj8 Arg.cle Expr.rlen Op.cle T_119 T_2 T_3 T_66 T_68;refine qk (fun e s => ∃ i2 i3 : Nat, Bx σ s i2 68 (Arg.cl a0) ∧ Bx σ s i3 68 (Arg.cl a1) ∧ eP e 2 i2 ∧ eP e 3 i3 ∧ Pre σ s) ?_ ?_
 ·refine w_x (cj3 E0 E1 TT) ?_;exact qg ⟨σ.length, (σ ++ [some (AObj.box 68 (Arg.cl a0))]).length, ((Bx.new hP 68 (Arg.cl a0)).app [some (AObj.box 68 (Arg.cl a1))]), (Bx.new (hP.app _) 68 (Arg.cl a1)), (xv (cj3 E0 E1 TT)), (xv (cj3 E0 E1 TT)), ((hP.app _).app _)⟩
 rintro e s ⟨i2, i3, X2, X3, E2, E3, hP⟩
 refine qm (qk (fun e s => Bx σ s i2 68 (Arg.cl a0) ∧ Bx σ s i3 68 (Arg.cl a1) ∧ eP e 2 i2 ∧ eP e 3 i3 ∧ eB e 19 ((!decide (a0.src = a1.src)) || (!decide (((List.length a0.ops : Nat) : Int) = ((List.length a1.ops : Nat) : Int)))) ∧ Pre σ s) ?_ ?_)
 ·cases hb1 : (!decide (a0.src = a1.src))
  ·have q1 := cj6 E2 E3 X2.get X3.get hb1 TT;refine w_x q1 ?_;exact qg ⟨X2, X3, E2, E3, (xv q1), hP⟩
  ·have q2 := cj6 E2 E3 X2.get X3.get hb1 TT;refine w_x q2 ?_;exact qg ⟨X2, X3, E2, E3, (xv q2), hP⟩
 rintro e s ⟨X2, X3, E2, E3, E19, hP⟩
 refine qe ?_;rcases qj h with ⟨hb2, h⟩ | ⟨hb2, h⟩
 ·refine xt (cj2 E19 hb2) (qe (w_x Expr.rlen ?_));refine qf (qp (qW ?_));obtain rfl := qa h;exact qr (fun _ => rfl) (xr (rs := #[.tmp 4]) TT) hP (.refl _) (.v _) hK
 ·refine xf (cj2 E19 hb2) (qn (qf (qm (qe (w_x Expr.rlen ?_)))));refine qf ?_;obtain ⟨x3, h4, h⟩ := qb h;refine qk (fun e s => .inr () = x3 ∧ Pre σ s) ?_ ?_
  ·refine qo (qH h4 (fun v e s => ∃ v5, v5 = v ∧ Bx σ s i2 68 (Arg.cl a0) ∧ Bx σ s i3 68 (Arg.cl a1) ∧ eP e 2 i2 ∧ eP e 3 i3 ∧ eI e 5 v5 ∧ Pre σ s) ⟨_, WkE.refl _, _, rfl, X2, X3, E2, E3, (xv TT), hP⟩ ?_)
   rintro v x6 e s hf7 ⟨v5, rfl, X2, X3, E2, E3, E5, hP⟩
   unfold ZI at hf7;(try dsimp only at hf7);refine qm (qe (w_x (cj4 E2 E5 X2.get TT) ?_));refine qf (qe ?_);rcases qj hf7 with ⟨hb8, hf7⟩ | ⟨hb8, hf7⟩
   ·refine xt hb8 (qn (qf ?_));obtain ⟨x9, h10, hf7⟩ := qb hf7;refine qk (fun e s => .inr () = x9 ∧ Bx σ s i2 68 (Arg.cl a0) ∧ Bx σ s i3 68 (Arg.cl a1) ∧ eP e 2 i2 ∧ eP e 3 i3 ∧ eI e 5 v5 ∧ Pre σ s) ?_ ?_
    ·refine qo (qe ?_);obtain ⟨y11, h12, h10⟩ := qb h10;obtain ⟨y13, h14, h10⟩ := qb h10;have R15 := qA (f := Op.cl) (qh h12).2;have R16 := qA (f := Op.cl) (qh h14).2;refine Jb (Qy E2 E3 E5 X2.get X3.get R15 (qh h12).1 R16 (qh h14).1 TT) ?_;refine qf ?_;rcases qj h10 with ⟨hb17, h10⟩ | ⟨hb17, h10⟩
     ·refine xt hb17 (qe (w_x Expr.rlen ?_));refine qf (qp (qx ?_));obtain rfl := qa h10;refine qC ?_;(try dsimp only at hf7);obtain rfl := qa hf7;refine zk rfl fun hr18 => ?_;obtain rfl := hr18;refine qx (qC ?_);(try dsimp only at h);obtain rfl := qa h;exact qr (fun _ => rfl) (xr (rs := #[.tmp 4]) TT) hP (.refl _) (.v _) hK
     ·refine xf hb17 (qn (qP ?_));obtain rfl := qa h10;exact qg ⟨rfl, X2, X3, E2, E3, E5, hP⟩
    rintro e s ⟨rfl, X2, X3, E2, E3, E5, hP⟩
    (try dsimp only at hf7);refine w_x (cj2 E5 TT) ?_;obtain rfl := qa hf7;exact qT rfl ⟨_, rfl, X2, X3, E2, E3, (xv (cj2 E5 TT)), hP⟩
   ·refine xf hb8 (qE (qM ?_));obtain rfl := qa hf7;refine qS rfl fun hr19 => ?_;obtain rfl := hr19;exact qK (qg ⟨rfl, hP⟩)
  rintro e s ⟨rfl, hP⟩
  (try dsimp only at h);refine qe (w_x Expr.rlen ?_);refine qf (qp ?_);obtain rfl := qa h;exact qr (fun _ => rfl) (xr (rs := #[.tmp 4]) TT) hP (.refl _) (.v _) hK
end Go.Proofs.Ytohmmfimedgccaa.E
end
