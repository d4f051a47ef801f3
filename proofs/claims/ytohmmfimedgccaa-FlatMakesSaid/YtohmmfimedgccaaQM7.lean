import Derived.KernelRfl
import Derived.Test.YtohmmfimedgccaaRows
import Derived.WalkKit
import Derived.ProofKit
import Derived.OpenShut
import Derived.ShutString
import Derived.ChangeOld
import Derived.Below
import Derived.SizedLaws
import Derived.Test.YtohmmfimedgccaaQM6
/- Of every program, what is made flat is what the document's answer for that layer says. PART 8 OF 8: G62 G98 G99 FK G5 G17 G30 G31 G63 G66 G69 G72 G100 G101 G104 FL OP RowFlatMakes -/
section
namespace Go.Proofs.Ytohmmfimedgccaa.E
set_option maxRecDepth 100000
set_option maxHeartbeats 4000000
set_option linter.unusedVariables false
set_option linter.unusedSimpArgs false
noncomputable def B_ref08_fits (f0 : Flat → Int → Option (Clock × Bool)) (f1 : Clock → (List Op) → Option (Clock × Int)) (a0 : Flat) (a1 : Arg) (a2 : Clock) : Option Bool :=
 (f0 a0 a1.src).bind fun y1 =>
 if ((!y1.2) || (decide ((20 : Int) < ((List.length a1.ops : Nat) : Int)))) then
  some false
 else
  (f1 y1.1 a1.ops).bind fun y5 =>
  some ((decide (y5.2 = (0 : Int))) && (decide (y5.1.period = a2.period) && (decide (y5.1.phase = a2.phase))))
theorem W_ref08_fits (f0 f1) (S0 : Sat_ref08_source f0) (S1 : Sat_ref02_All f1) : Sat_ref08_fits (B_ref08_fits f0 f1) := by
 intro a0 a1 a2 r h σ K hK;refine qZ Try.func62 rfl rfl (by kernel_rfl) ?_;unfold B_ref08_fits at h;have hP := Pre.refl σ;have E0 : qD [(.ag (Flat.cl a0)), (.ag (Arg.cl a1)), (.ag (Clock.cl a2))] 0 = (.ag (Flat.cl a0)) := rfl;have E1 : qD [(.ag (Flat.cl a0)), (.ag (Arg.cl a1)), (.ag (Clock.cl a2))] 1 = (.ag (Arg.cl a1)) := rfl;have E2 : qD [(.ag (Flat.cl a0)), (.ag (Arg.cl a1)), (.ag (Clock.cl a2))] 2 = (.ag (Clock.cl a2)) := rfl;have TT := cj16 Arg.cle Clock.cle Expr.rlen Flat.cle T_119 T_2 T_22 T_3 T_30 T_33 T_43 T_46 T_47 T_49 T_66 T_68;refine qk (fun e s => ∃ i3 i4 i5 : Nat, Bx σ s i3 49 (Flat.cl a0) ∧ Bx σ s i4 68 (Arg.cl a1) ∧ Bx σ s i5 43 (Clock.cl a2) ∧ eP e 3 i3 ∧ eP e 4 i4 ∧ eP e 5 i5 ∧ Pre σ s) ?_ ?_
 ·have q1 := cj4 E0 E1 E2 TT;refine w_x q1 ?_;exact qg ⟨σ.length, (σ ++ [some (AObj.box 49 (Flat.cl a0))]).length, ((σ ++ [some (AObj.box 49 (Flat.cl a0))]) ++ [some (AObj.box 68 (Arg.cl a1))]).length, (((Bx.new hP 49 (Flat.cl a0)).app [some (AObj.box 68 (Arg.cl a1))]).app [some (AObj.box 43 (Clock.cl a2))]), ((Bx.new (hP.app _) 68 (Arg.cl a1)).app [some (AObj.box 43 (Clock.cl a2))]), (Bx.new ((hP.app _).app _) 43 (Clock.cl a2)), (xv q1), (xv q1), (xv q1), (((hP.app _).app _).app _)⟩
 rintro e s ⟨i3, i4, i5, X3, X4, X5, E3, E4, E5, hP⟩
 obtain ⟨y1, h2, h⟩ := qb h;refine qk (fun e s => ∃ i7 : Nat, Bx σ s i4 68 (Arg.cl a1) ∧ Bx σ s i5 43 (Clock.cl a2) ∧ Bx σ s i7 43 (Clock.cl y1.1) ∧ eP e 4 i4 ∧ eP e 5 i5 ∧ eP e 7 i7 ∧ eB e 8 y1.2 ∧ Pre σ s) ?_ ?_
 ·have q2 := cj5 E3 E4 X3.g3 X4.g3 TT;refine w_x q2 ?_;refine S0 _ _ _ h2 _ _  ?_;refine w_y q2 ?_;exact qg ⟨s.length, (X4.app _), (X5.app _), (Bx.new hP _ _), E4, E5, (xv q2), (xv q2), (hP.app _)⟩
 rintro e s ⟨i7, X4, X5, X7, E4, E5, E7, E8, hP⟩
 refine qm (qk (fun e s => Bx σ s i4 68 (Arg.cl a1) ∧ Bx σ s i5 43 (Clock.cl a2) ∧ Bx σ s i7 43 (Clock.cl y1.1) ∧ eP e 4 i4 ∧ eP e 5 i5 ∧ eP e 7 i7 ∧ eB e 25 ((!y1.2) || (decide ((20 : Int) < ((List.length a1.ops : Nat) : Int)))) ∧ Pre σ s) ?_ ?_)
 ·cases hb3 : (!y1.2)
  ·refine w_x (cj5 E4 E8 X4.get hb3 TT) ?_;exact qg ⟨X4, X5, X7, E4, E5, E7, (xv (cj5 E4 E8 X4.get hb3 TT)), hP⟩
  ·refine w_x (cj5 E4 E8 X4.get hb3 TT) ?_;exact qg ⟨X4, X5, X7, E4, E5, E7, (xv (cj5 E4 E8 X4.get hb3 TT)), hP⟩
 rintro e s ⟨X4, X5, X7, E4, E5, E7, E25, hP⟩
 refine qe ?_;rcases qj h with ⟨hb4, h⟩ | ⟨hb4, h⟩
 ·refine xt (cj2 E25 hb4) (qe (w_x Expr.rlen ?_));refine qf (qp (qW ?_));obtain rfl := qa h;exact qr (fun _ => rfl) (xr (rs := #[.tmp 6]) TT) hP (.refl _) (.v _) hK
 ·refine xf (cj2 E25 hb4) (qn (qf ?_));obtain ⟨y5, h6, h⟩ := qb h;refine qk (fun e s => ∃ i9 : Nat, Bx σ s i5 43 (Clock.cl a2) ∧ Bx σ s i9 43 (Clock.cl y5.1) ∧ eP e 5 i5 ∧ eP e 9 i9 ∧ eI e 10 y5.2 ∧ Pre σ s) ?_ ?_
  ·have q3 := cj5 E4 E7 X4.g3 X7.g3 TT;refine w_x q3 ?_;refine S1 _ _ _ h6 _ _  ?_;refine w_y q3 ?_;exact qg ⟨s.length, (X5.app _), (Bx.new hP _ _), E5, (xv q3), (xv q3), (hP.app _)⟩
  rintro e s ⟨i9, X5, X9, E5, E9, E10, hP⟩
  refine qk (fun e s => eB e 6 ((decide (y5.2 = (0 : Int))) && (decide (y5.1.period = a2.period) && (decide (y5.1.phase = a2.phase)))) ∧ Pre σ s) ?_ ?_
  ·cases hb7 : (decide (y5.2 = (0 : Int)))
   ·have q4 := cj7 E5 E9 E10 X5.get X9.get hb7 TT;refine w_x q4 ?_;exact qg ⟨(xv q4), hP⟩
   ·have q5 := cj7 E5 E9 E10 X5.get X9.get hb7 TT;refine w_x q5 ?_;exact qg ⟨(xv q5), hP⟩
  rintro e s ⟨E6, hP⟩
  refine qp ?_;obtain rfl := qa h;exact qr (fun _ => rfl) (xr (rs := #[.tmp 6]) (cj2 E6 TT)) hP (.refl _) (.v _) hK
noncomputable def B_ref08_source (a0 : Flat) (a1 : Int) : Option (Clock × Bool) :=
 if ((decide ((0 : Int) ≤ a1)) && (decide (a1 < ((List.length a0.inputs : Nat) : Int)))) then
  (qB a0.inputs a1).bind fun y3 =>
  some (y3, true)
 else
  if ((decide (((List.length a0.inputs : Nat) : Int) ≤ a1)) && (decide (a1 < (IntKind.i64.wrap (((List.length a0.inputs : Nat) : Int) + ((List.length a0.tasks : Nat) : Int)))))) then
   (qB a0.tasks (IntKind.i64.wrap (a1 - ((List.length a0.inputs : Nat) : Int)))).bind fun y8 =>
   some (y8.clock, true)
  else
   some ((Clock.mk (0 : Int) (0 : Int)), false)
abbrev C98_0 (z0 z1 : Store) (z2 : Nat) : Prop := Bx z0 z1 z2 43 [(.v (.int .i64 (0 : Int))), (.v (.int .i64 (0 : Int)))]
theorem W_ref08_source : Sat_ref08_source (B_ref08_source) := by
 intro a0 a1 r h σ K hK;refine qZ Try.func98 rfl rfl (by kernel_rfl) ?_;unfold B_ref08_source at h;have hP := Pre.refl σ;have E0 : qD [(.ag (Flat.cl a0)), (.v (.int .i64 a1))] 0 = (.ag (Flat.cl a0)) := rfl;have E1 : qD [(.ag (Flat.cl a0)), (.v (.int .i64 a1))] 1 = (.v (.int .i64 a1)) := rfl;have TT := qqo Clock.cle Expr.rlen Flat.cle T_2 T_22 T_3 T_33 T_43 T_46 T_47 T_49 T_59 T_61 Task.cle;refine qk (fun e s => ∃ i2 i4 : Nat, Bx σ s i2 49 (Flat.cl a0) ∧ C98_0 σ s i4 ∧ eI e 1 a1 ∧ eP e 2 i2 ∧ eP e 4 i4 ∧ i2 ≠ i4 ∧ Pre σ s) ?_ ?_
 ·refine w_x (cj2 E0 TT) ?_;exact qg ⟨σ.length, (σ ++ [some (AObj.box 49 (Flat.cl a0))]).length, ((Bx.new hP 49 (Flat.cl a0)).app [some (AObj.box 43 [(.v (.int .i64 (0 : Int))), (.v (.int .i64 (0 : Int)))])]), (Bx.new (hP.app _) 43 [(.v (.int .i64 (0 : Int))), (.v (.int .i64 (0 : Int)))]), E1, (xv (cj2 E0 TT)), (xv (cj2 E0 TT)), (Nat.ne_of_lt (Bx.new hP 49 (Flat.cl a0)).lt), ((hP.app _).app _)⟩
 rintro e s ⟨i2, i4, X2, X4, E1, E2, E4, N2__4, hP⟩
 refine qm (qk (fun e s => Bx σ s i2 49 (Flat.cl a0) ∧ C98_0 σ s i4 ∧ eI e 1 a1 ∧ eP e 2 i2 ∧ eP e 4 i4 ∧ eB e 14 ((decide ((0 : Int) ≤ a1)) && (decide (a1 < ((List.length a0.inputs : Nat) : Int)))) ∧ i2 ≠ i4 ∧ Pre σ s) ?_ ?_)
 ·cases hb1 : (decide ((0 : Int) ≤ a1))
  ·refine w_x (cj5 E1 E2 X2.get hb1 TT) ?_;exact qg ⟨X2, X4, E1, E2, E4, (xv (cj5 E1 E2 X2.get hb1 TT)), N2__4, hP⟩
  ·refine w_x (cj5 E1 E2 X2.get hb1 TT) ?_;exact qg ⟨X2, X4, E1, E2, E4, (xv (cj5 E1 E2 X2.get hb1 TT)), N2__4, hP⟩
 rintro e s ⟨X2, X4, E1, E2, E4, E14, N2__4, hP⟩
 refine qe ?_;rcases qj h with ⟨hb2, h⟩ | ⟨hb2, h⟩
 ·refine xt (cj2 E14 hb2) ?_;obtain ⟨y3, h4, h⟩ := qb h;refine qk (fun e s => Bx σ s i4 43 (Clock.cl y3) ∧ eP e 4 i4 ∧ eB e 5 true ∧ Pre σ s) ?_ ?_
  ·have R5 := qA (f := Clock.cl) (qh h4).2;have q1 := X4.same 43 (Clock.cl y3);have q2 := X2.ne (Ne.symm N2__4) (some (AObj.box 43 (Clock.cl y3)));have q3 := Qy E1 E2 E4 X2.get X4.get R5 (qh h4).1 q2.get q1.get TT;refine w_x q3 ?_;exact qg ⟨q1, E4, (xv q3), (hP.set X4.le (some (AObj.box 43 (Clock.cl y3))))⟩
  rintro e s ⟨X4, E4, E5, hP⟩
  refine qp (qW ?_);obtain rfl := qa h;exact qr (fun _ => rfl) (xr (rs := #[.cell 4 43, .tmp 5]) (cj4 X4.get E4 E5 TT)) hP (.refl _) (.tu (CnL.cons (.ag (CnL.cons (.v _) (CnL.cons (.v _) CnL.nil))) (CnL.cons (.v _) CnL.nil))) hK
 ·refine xf (cj2 E14 hb2) (qn (qf (qm (qk (fun e s => Bx σ s i2 49 (Flat.cl a0) ∧ C98_0 σ s i4 ∧ eI e 1 a1 ∧ eP e 2 i2 ∧ eP e 4 i4 ∧ eB e 35 ((decide (((List.length a0.inputs : Nat) : Int) ≤ a1)) && (decide (a1 < (IntKind.i64.wrap (((List.length a0.inputs : Nat) : Int) + ((List.length a0.tasks : Nat) : Int)))))) ∧ i2 ≠ i4 ∧ Pre σ s) ?_ ?_))))
  ·cases hb6 : (decide (((List.length a0.inputs : Nat) : Int) ≤ a1))
   ·refine w_x (cj5 E1 E2 X2.get hb6 TT) ?_;exact qg ⟨X2, X4, E1, E2, E4, (xv (cj5 E1 E2 X2.get hb6 TT)), N2__4, hP⟩
   ·refine w_x (cj5 E1 E2 X2.get hb6 TT) ?_;exact qg ⟨X2, X4, E1, E2, E4, (xv (cj5 E1 E2 X2.get hb6 TT)), N2__4, hP⟩
  rintro e s ⟨X2, X4, E1, E2, E4, E35, N2__4, hP⟩
  refine qe ?_;rcases qj h with ⟨hb7, h⟩ | ⟨hb7, h⟩
  ·refine xt (cj2 E35 hb7) ?_;obtain ⟨y8, h9, h⟩ := qb h;refine qk (fun e s => Bx σ s i4 43 (Clock.cl y8.clock) ∧ eP e 4 i4 ∧ eB e 5 true ∧ Pre σ s) ?_ ?_
   ·have R10 := qA (f := Task.cl) (qh h9).2;have q4 := X4.same 43 (Clock.cl y8.clock);have q5 := X2.ne (Ne.symm N2__4) (some (AObj.box 43 (Clock.cl y8.clock)));have q6 := Qy E1 E2 E4 X2.get X4.get R10 (qh h9).1 q5.get q4.get TT;refine w_x q6 ?_;exact qg ⟨q4, E4, (xv q6), (hP.set X4.le (some (AObj.box 43 (Clock.cl y8.clock))))⟩
   rintro e s ⟨X4, E4, E5, hP⟩
   refine qp (qW ?_);obtain rfl := qa h;exact qr (fun _ => rfl) (xr (rs := #[.cell 4 43, .tmp 5]) (cj4 X4.get E4 E5 TT)) hP (.refl _) (.tu (CnL.cons (.ag (CnL.cons (.v _) (CnL.cons (.v _) CnL.nil))) (CnL.cons (.v _) CnL.nil))) hK
  ·refine xf (cj2 E35 hb7) (qn (qf (qk (fun e s => C98_0 σ s i4 ∧ eP e 4 i4 ∧ eB e 5 false ∧ Pre σ s) ?_ ?_)))
   ·have q7 := X4.same 43 [(.v (.int .i64 (0 : Int))), (.v (.int .i64 (0 : Int)))];refine w_x (cj4 E4 X4.get q7.get TT) ?_;exact qg ⟨q7, E4, (xv (cj4 E4 X4.get q7.get TT)), (hP.set X4.le (some (AObj.box 43 [(.v (.int .i64 (0 : Int))), (.v (.int .i64 (0 : Int)))])))⟩
   rintro e s ⟨X4, E4, E5, hP⟩
   refine qp ?_;obtain rfl := qa h;exact qr (fun _ => rfl) (xr (rs := #[.cell 4 43, .tmp 5]) (cj4 X4.get E4 E5 TT)) hP (.refl _) (.tu (CnL.cons (.ag (CnL.cons (.v _) (CnL.cons (.v _) CnL.nil))) (CnL.cons (.v _) CnL.nil))) hK
noncomputable def Jl (a1 : (List Op)) (f0 : Clock → Op → Option (Clock × Int)) : (Int × Clock × Clock) → Option ((Int × Clock × Clock) ⊕ ((Clock × Int) ⊕ (Clock × Clock)))
 | (v8, v9, v10) =>
  if (decide (v8 < ((List.length a1 : Nat) : Int))) then
   ((qB a1 v8).bind fun y18 =>
   (f0 v9 y18).bind fun y20 =>
   if (!decide (y20.2 = (0 : Int))) then
    some (.inl ((Clock.mk (0 : Int) (0 : Int)), y20.2))
   else
    some (.inr (y20.1, v10)) : Option ((Clock × Int) ⊕ (Clock × Clock))).bind fun x => match x with
   | .inl r => some (.inr (.inl r))
   | .inr (v16, v17) =>
    some (.inl ((IntKind.i64.wrap (v8 + (1 : Int))), v16, v17))
  else
   some (.inr (.inr (v9, v10)))
noncomputable def B_ref02_All (f0 : Clock → Op → Option (Clock × Int)) (f1 : Clock → Option Bool) (a0 : Clock) (a1 : (List Op)) : Option (Clock × Int) :=
 (f1 a0).bind fun y1 =>
 if (!y1) then
  some ((Clock.mk (0 : Int) (0 : Int)), (12 : Int))
 else
  (qz (Jl a1 f0) ((0 : Int), a0, (Clock.mk (0 : Int) (0 : Int))) : Option ((Clock × Int) ⊕ (Clock × Clock))).bind fun x => match x with
  | .inl r => some r
  | .inr (v6, v7) =>
   some (v6, (0 : Int))
abbrev C99_0 (z0 z1 : Store) (z2 : Nat) : Prop := Bx z0 z1 z2 43 [(.v (.int .i64 (0 : Int))), (.v (.int .i64 (0 : Int)))]
theorem W_ref02_All (f0 f1) (S0 : Sat_ref02_Apply f0) (S1 : Sat_ref02_Right f1) : Sat_ref02_All (B_ref02_All f0 f1) := by
 intro a0 a1 r h σ K hK;refine qZ Try.func99 rfl rfl (by kernel_rfl) ?_;unfold B_ref02_All at h;have hP := Pre.refl σ;have E0 : qD [(.ag (Clock.cl a0)), (.sl (List.map Op.cl a1))] 0 = (.ag (Clock.cl a0)) := rfl;have E1 : qD [(.ag (Clock.cl a0)), (.sl (List.map Op.cl a1))] 1 = (.sl (List.map Op.cl a1)) := rfl;have TT := cj9 Clock.cle Expr.rlen Op.cle T_119 T_2 T_3 T_30 T_43 T_66;refine qk (fun e s => ∃ i2 i4 : Nat, Bx σ s i2 43 (Clock.cl a0) ∧ C99_0 σ s i4 ∧ eS e 1 Op.cl a1 ∧ eP e 2 i2 ∧ eP e 4 i4 ∧ i2 ≠ i4 ∧ Pre σ s) ?_ ?_
 ·refine w_x (cj2 E0 TT) ?_;exact qg ⟨σ.length, (σ ++ [some (AObj.box 43 (Clock.cl a0))]).length, ((Bx.new hP 43 (Clock.cl a0)).app [some (AObj.box 43 [(.v (.int .i64 (0 : Int))), (.v (.int .i64 (0 : Int)))])]), (Bx.new (hP.app _) 43 [(.v (.int .i64 (0 : Int))), (.v (.int .i64 (0 : Int)))]), E1, (xv (cj2 E0 TT)), (xv (cj2 E0 TT)), (Nat.ne_of_lt (Bx.new hP 43 (Clock.cl a0)).lt), ((hP.app _).app _)⟩
 rintro e s ⟨i2, i4, X2, X4, E1, E2, E4, N2__4, hP⟩
 refine qm (qe ?_);obtain ⟨y1, h2, h⟩ := qb h;refine w_x (cj3 E2 X2.get TT) ?_;refine S1 _ _ h2 _ _  ?_;refine w_y (cj3 E2 X2.get TT) ?_;refine qf (qe ?_);rcases qj h with ⟨hb3, h⟩ | ⟨hb3, h⟩
 ·refine xt hb3 (qk (fun e s => C99_0 σ s i4 ∧ eP e 4 i4 ∧ eI e 5 (12 : Int) ∧ Pre σ s) ?_ ?_)
  ·have q1 := X4.same 43 [(.v (.int .i64 (0 : Int))), (.v (.int .i64 (0 : Int)))];refine w_x (cj4 E4 X4.get q1.get TT) ?_;exact qg ⟨q1, E4, (xv (cj4 E4 X4.get q1.get TT)), (hP.set X4.le (some (AObj.box 43 [(.v (.int .i64 (0 : Int))), (.v (.int .i64 (0 : Int)))])))⟩
  rintro e s ⟨X4, E4, E5, hP⟩
  refine qp (qW ?_);obtain rfl := qa h;exact qr (fun _ => rfl) (xr (rs := #[.cell 4 43, .tmp 5]) (cj4 X4.get E4 E5 TT)) hP (.refl _) (.tu (CnL.cons (.ag (CnL.cons (.v _) (CnL.cons (.v _) CnL.nil))) (CnL.cons (.v _) CnL.nil))) hK
 ·refine xf hb3 (qn (qf (qm (qe (w_x Expr.rlen ?_)))));refine qf ?_;obtain ⟨x4, h5, h⟩ := qb h;refine qk (fun e s => ∃ v6 : Clock, ∃ v7 : Clock, .inr (v6, v7) = x4 ∧ Bx σ s i2 43 (Clock.cl v6) ∧ Bx σ s i4 43 (Clock.cl v7) ∧ eP e 2 i2 ∧ eP e 4 i4 ∧ i2 ≠ i4 ∧ Pre σ s) ?_ ?_
  ·refine qo (qH h5 (fun v e s => ∃ v8 v9 v10, (v8, v9, v10) = v ∧ Bx σ s i2 43 (Clock.cl v9) ∧ Bx σ s i4 43 (Clock.cl v10) ∧ eS e 1 Op.cl a1 ∧ eP e 2 i2 ∧ eP e 4 i4 ∧ eI e 6 v8 ∧ i2 ≠ i4 ∧ Pre σ s) ⟨_, WkE.refl _, _, _, _, rfl, X2, X4, E1, E2, E4, (xv TT), N2__4, hP⟩ ?_)
   rintro v x11 e s hf12 ⟨v8, v9, v10, rfl, X2, X4, E1, E2, E4, E6, N2__4, hP⟩
   unfold Jl at hf12;(try dsimp only at hf12);refine qm (qe (w_x (cj3 E1 E6 TT) ?_));refine qf (qe ?_);rcases qj hf12 with ⟨hb13, hf12⟩ | ⟨hb13, hf12⟩
   ·refine xt hb13 (qn (qf ?_));obtain ⟨x14, h15, hf12⟩ := qb hf12;refine qk (fun e s => ∃ v16 : Clock, ∃ v17 : Clock, .inr (v16, v17) = x14 ∧ Bx σ s i2 43 (Clock.cl v16) ∧ Bx σ s i4 43 (Clock.cl v17) ∧ eS e 1 Op.cl a1 ∧ eP e 2 i2 ∧ eP e 4 i4 ∧ eI e 6 v8 ∧ i2 ≠ i4 ∧ Pre σ s) ?_ ?_
    ·refine qo ?_;obtain ⟨y18, h19, h15⟩ := qb h15;obtain ⟨y20, h21, h15⟩ := qb h15;refine qk (fun e s => ∃ i7 : Nat, Bx σ s i2 43 (Clock.cl v9) ∧ Bx σ s i4 43 (Clock.cl v10) ∧ Bx σ s i7 43 (Clock.cl y20.1) ∧ eS e 1 Op.cl a1 ∧ eP e 2 i2 ∧ eP e 4 i4 ∧ eI e 6 v8 ∧ eP e 7 i7 ∧ eI e 8 y20.2 ∧ i2 ≠ i4 ∧ i2 ≠ i7 ∧ i4 ≠ i7 ∧ Pre σ s) ?_ ?_
     ·have R22 := qA (f := Op.cl) (qh h19).2;have q2 := X2.app [some (AObj.box 43 (Clock.cl y20.1))];have q3 := Bx.at hP (l := [some (AObj.box 43 (Clock.cl y20.1))]) (j := 0) (t := 43) (c := (Clock.cl y20.1)) rfl;have q4 := cj9 E1 E2 E6 X2.g3 R22 (qh h19).1 q2.get q3.get TT;refine zh 11 1 q4 ?_;refine S0 _ _ _ h21 _ _  ?_;refine Ql q4 ?_ ;refine qY q4 ?_;exact qg ⟨(s.length), q2, (X4.app _), q3, E1, E2, E4, E6, (xv q4), (xv q4), N2__4, (Nat.ne_of_lt X2.lt), (Nat.ne_of_lt X4.lt), (hP.app _)⟩
     rintro e s ⟨i7, X2, X4, X7, E1, E2, E4, E6, E7, E8, N2__4, N2__7, N4__7, hP⟩
     refine qm (qe (w_x (cj2 E8 TT) ?_));refine qf (qe ?_);rcases qj h15 with ⟨hb23, h15⟩ | ⟨hb23, h15⟩
     ·refine xt hb23 (qk (fun e s => C99_0 σ s i4 ∧ eP e 4 i4 ∧ eI e 5 y20.2 ∧ Pre σ s) ?_ ?_)
      ·have q5 := X4.same 43 [(.v (.int .i64 (0 : Int))), (.v (.int .i64 (0 : Int)))];refine w_x (cj5 E4 E8 X4.get q5.get TT) ?_;exact qg ⟨q5, E4, (xv (cj5 E4 E8 X4.get q5.get TT)), (hP.set X4.le (some (AObj.box 43 [(.v (.int .i64 (0 : Int))), (.v (.int .i64 (0 : Int)))])))⟩
      rintro e s ⟨X4, E4, E5, hP⟩
      refine qp (qW (qx ?_));obtain rfl := qa h15;refine qC ?_;(try dsimp only at hf12);obtain rfl := qa hf12;refine zk rfl fun hr24 => ?_;obtain rfl := hr24;refine qx (qC ?_);(try dsimp only at h);obtain rfl := qa h;exact qr (fun _ => rfl) (xr (rs := #[.cell 4 43, .tmp 5]) (cj4 X4.get E4 E5 TT)) hP (.refl _) (.tu (CnL.cons (.ag (CnL.cons (.v _) (CnL.cons (.v _) CnL.nil))) (CnL.cons (.v _) CnL.nil))) hK
     ·refine xf hb23 (qn (qf (w_x (cj7 E2 E7 X2.get X7.get X2.samea (X7.nea N2__7) TT) ?_)));refine qP ?_;obtain rfl := qa h15;exact qg ⟨_, _, rfl, (X2.same _ _), (X4.ne N2__4 _), E1, E2, E4, E6, N2__4, (hP.set X2.le (some (AObj.box 43 (Clock.cl y20.1))))⟩
    rintro e s ⟨v16, v17, rfl, X2, X4, E1, E2, E4, E6, N2__4, hP⟩
    (try dsimp only at hf12);refine w_x (cj2 E6 TT) ?_;obtain rfl := qa hf12;exact qT rfl ⟨_, _, _, rfl, X2, X4, E1, E2, E4, (xv (cj2 E6 TT)), N2__4, hP⟩
   ·refine xf hb13 (qE (qM ?_));obtain rfl := qa hf12;refine qS rfl fun hr25 => ?_;obtain rfl := hr25;exact qK (qg ⟨_, _, rfl, X2, X4, E2, E4, N2__4, hP⟩)
  rintro e s ⟨v6, v7, rfl, X2, X4, E2, E4, N2__4, hP⟩
  (try dsimp only at h);refine qk (fun e s => Bx σ s i4 43 (Clock.cl v6) ∧ eP e 4 i4 ∧ eI e 5 (0 : Int) ∧ Pre σ s) ?_ ?_
  ·have q6 := X4.same 43 (Clock.cl v6);have q7 := X2.ne (Ne.symm N2__4) (some (AObj.box 43 (Clock.cl v6)));have q8 := cj7 E2 E4 X2.get X4.get q7.get q6.get TT;refine w_x q8 ?_;exact qg ⟨q6, E4, (xv q8), (hP.set X4.le (some (AObj.box 43 (Clock.cl v6))))⟩
  rintro e s ⟨X4, E4, E5, hP⟩
  refine qp ?_;obtain rfl := qa h;exact qr (fun _ => rfl) (xr (rs := #[.cell 4 43, .tmp 5]) (cj4 X4.get E4 E5 TT)) hP (.refl _) (.tu (CnL.cons (.ag (CnL.cons (.v _) (CnL.cons (.v _) CnL.nil))) (CnL.cons (.v _) CnL.nil))) hK
end Go.Proofs.Ytohmmfimedgccaa.E
end
section
namespace Go.Proofs.Ytohmmfimedgccaa.E
set_option linter.unusedVariables false
set_option linter.unusedSimpArgs false
set_option maxRecDepth 10000
noncomputable def qqh := B_ref08_Same
theorem s_same : Sat_ref08_Same qqh := W_ref08_Same
theorem v_same {a : Arg} (h : a.ops.length ≤ 10000) : qqh a a = some true := by
 have hbig : (1000000 : Nat) ≤ maxLen := by unfold maxLen; decide
 obtain ⟨r, h1, h2⟩ := qL (f := ZI a a) (fun i v => v = (i : Int)) a.ops.length (fun r : Bool ⊕ Unit => r = .inr ()) (fun i v hi hv => by
  subst hv;unfold ZI;simp only [dlt hi, if_true, qy hi, Option.bind_some, decide_true, Bool.and_self, Bool.not_true, Bool.false_eq_true, if_false];exact .inl ⟨_, rfl, zc hi (by omega)⟩) (fun v hv => by
  subst hv;unfold ZI;simp only [dge, Bool.false_eq_true, if_false];exact ⟨_, rfl, rfl⟩) (v0 := (0 : Int)) rfl
 subst h2;unfold qqh B_ref08_Same;simp only [decide_true, Bool.not_true, Bool.or_self, Bool.false_eq_true, if_false];rw [h1];rfl
theorem FW.pl {p : Program} {ρ : ByteArray → Clock} (w : FW p ρ) {k : Nat} {x : ByteArray × Expr} (hk : (cls (spP p.flows))[k]? = some x) : ∃ (j a : Nat) (f : Flow), (plP 0 p.flows)[k]? = some ⟨(j : Int), (a : Int)⟩ ∧ p.flows[j]? = some f ∧ (spE f.name f.e)[a]? = some x ∧ a < 100 := by
 have hl := (List.getElem?_eq_some_iff.1 hk).1;rw [← Yc p.flows 0] at hl;have h := List.getElem?_eq_getElem hl;obtain ⟨j, a, f, x', h1, h2, h3, h4⟩ := plP_at _ _ _ _ h;rw [hk] at h3;obtain rfl := Option.some.inj h3;rw [h4, Nat.zero_add] at h;have hs := (w.fit.flow f (List.mem_of_getElem? h1)).size;have hal := (List.getElem?_eq_some_iff.1 h2).1;rw [QL] at hal;exact ⟨j, a, f, h, h1, h2, by omega⟩
theorem v_rargs {p : Program} {ρ : ByteArray → Clock} (w : FW p ρ) {j a : Nat} {f : Flow} {x : ByteArray × Expr} (hj : p.flows[j]? = some f) (ha : (spE f.name f.e)[a]? = some x) {i : Nat} (hi : i < x.2.args.length) : Zr p (plP 0 p.flows) ⟨(j : Int), ((a + (1 + qF (x.2.args.take i)) : Nat) : Int)⟩ 5000 = some (argOf p (zd x.1 i) x.2.args[i], true) := by
 have hch := spE_child f.e f.name a x.1 x.2 ha i hi;rw [show a + 1 + qF (x.2.args.take i) = a + (1 + qF (x.2.args.take i)) by omega] at hch;have hp : (x.1, x.2) ∈ spP p.flows := List.mem_flatMap.2 ⟨f, List.mem_of_getElem? hj, List.mem_of_getElem? ha⟩;obtain ⟨n, hn, har⟩ := w.argOf (ZQ hp hi);exact v_rarg w har j _ 5000 f (by omega) (Nat.le_refl _) hj hch
noncomputable def qqL := B_law08_args Jm Zr qqh Qi
theorem s_largs : Sat_law08_args qqL := W_law08_args _ _ _ _ zzv s_rarg s_same qqd
theorem v_largs {p : Program} {ρ : ByteArray → Clock} (w : FW p ρ) {j a : Nat} {f : Flow} {x : ByteArray × Expr} (hj : p.flows[j]? = some f) (ha : (spE f.name f.e)[a]? = some x) (c : Clock) : qqL p (plP 0 p.flows) ⟨(j : Int), (a : Int)⟩ (qX p x c) = some true := by
 have hbig : (1000000 : Nat) ≤ maxLen := by unfold maxLen; decide
 obtain ⟨hjl, hje⟩ := List.getElem?_eq_some_iff.1 hj;have hs := (w.fit.flow f (List.mem_of_getElem? hj)).size;have hal := (List.getElem?_eq_some_iff.1 ha).1;rw [QL] at hal;have hp : (x.1, x.2) ∈ spP p.flows := List.mem_flatMap.2 ⟨f, List.mem_of_getElem? hj, List.mem_of_getElem? ha⟩;have hxs := w.psize hp;have hse := zE x.2;have hll := JO x.2.args;have hargs := JZ p x;obtain ⟨r, h1, h2⟩ := qL (f := ZX x.2 p (plP 0 p.flows) ⟨(j : Int), (a : Int)⟩ (qX p x c) Zr Qi qqh) (fun i v => v = (((1 + qF (x.2.args.take i) : Nat) : Int), (i : Int))) x.2.args.length (fun r : Bool ⊕ Unit => r = .inr ()) (fun i v hi hv => by
  subst hv;unfold ZX;have hsi := ZF hi;have hv := v_rargs w hj ha hi;obtain ⟨n, hn, har⟩ := w.argOf (ZQ hp hi);have hlen := har.len;simp only [dlt hi, if_true];rw [zn (n := (a : Int) + ((1 + qF (x.2.args.take i) : Nat) : Int)) (by omega) (by omega), show (a : Int) + ((1 + qF (x.2.args.take i) : Nat) : Int) = ((a + (1 + qF (x.2.args.take i)) : Nat) : Int) by omega, hv];simp only [Option.bind_some, Bool.not_true, Bool.false_or];have hle : ¬ (((zF p x).length : Int) ≤ (i : Int)) := by omega
  have hg : qB (zF p x) (i : Int) = some (argOf p (zd x.1 i) x.2.args[i]) := by
   rw [qy (by omega), ← List.getElem?_eq_getElem (by omega)];exact qqA p x (List.getElem?_eq_getElem hi)
  have hd : decide (((qX p x c).args.length : Int) ≤ (i : Int)) = false := decide_eq_false hle;rw [show qB (qX p x c).args (i : Int) = some (argOf p (zd x.1 i) x.2.args[i]) from hg];rw [hd];simp only [Bool.false_eq_true, if_false, Option.bind_some];rw [v_same (by omega)];simp only [Option.bind_some, Bool.not_true, Bool.false_eq_true, if_false, Bool.or_self, qy hi];have h5 := qqS x.2.args[i] 0 0 (by omega);rw [show (⟨(0 : Int), (0 : Int)⟩ : Pl) = ⟨((0 : Nat) : Int), ((0 : Nat) : Int)⟩ from rfl, h5];simp only [Option.bind_some];refine .inl ⟨_, rfl, ?_⟩;rw [zn (n := ((1 + qF (x.2.args.take i) : Nat) : Int) + ((za x.2.args[i] : Nat) : Int)) (by omega) (by omega), zc hi (by omega), ZB hi];congr 1;omega) (fun v hv => by
  subst hv;unfold ZX;simp only [dge, Bool.false_eq_true, if_false];exact ⟨_, rfl, rfl⟩) (v0 := ((1 : Int), (0 : Int))) (by simp [qF])
 subst h2;have hg : qB p.flows (j : Int) = some f := by rw [qy hjl, hje]
 have hr := v_rget f.e f.name a x (by omega) ha;unfold qqL B_law08_args;simp only [hg, Option.bind_some, hr];rw [h1];rfl
noncomputable def zzR := B_law08_long Jm Zr Qi
theorem s_rlong : Sat_law08_long zzR := W_law08_long _ _ _ zzv s_rarg qqd
theorem t_rlong {p : Program} {ρ : ByteArray → Clock} (w : FW p ρ) : ∃ b, zzR p (plP 0 p.flows) = some b ∧ (b = true ↔ ∃ f ∈ p.flows, LongS p f.name f.e true) := by
 have hbig : (1000000 : Nat) ≤ maxLen := by unfold maxLen; decide
 have hall := w.fit.all;have hcs := Qp w.fit;have hpl := Yc p.flows 0;have hchar : (∃ f ∈ p.flows, LongS p f.name f.e true) ↔ (∃ (i : Nat) (f : Flow), p.flows[i]? = some f ∧ Big p f.name f.e) ∨ ∃ (k : Nat) (x : ByteArray × Expr), (cls (spP p.flows))[k]? = some x ∧ ∃ (j : Nat) (y : Expr), x.2.args[j]? = some y ∧ Big p (zd x.1 j) y := by
  constructor
  ·rintro ⟨f, hf, h | h⟩
   ·obtain ⟨i, hi⟩ := List.getElem?_of_mem hf;exact .inl ⟨i, f, hi, h.2⟩
   ·right;obtain ⟨x, hx, h⟩ := QQb.2 ⟨f, hf, h⟩;obtain ⟨k, hk⟩ := List.getElem?_of_mem hx;exact ⟨k, x, hk, h⟩
  ·rintro (⟨i, f, hi, h⟩ | ⟨k, x, hk, h⟩)
   ·exact ⟨f, List.mem_of_getElem? hi, .inl ⟨rfl, h⟩⟩
   ·obtain ⟨f, hf, h⟩ := QQb.1 ⟨x, List.mem_of_getElem? hk, h⟩;exact ⟨f, hf, .inr h⟩
 rw [hchar];obtain ⟨r, h1, h2⟩ := Qz (n := p.flows.length) (by omega) (f := ZW p (plP 0 p.flows) Zr) (fun i => ∃ f, p.flows[i]? = some f ∧ Big p f.name f.e) (fun _ => true) (fun i hi => by
  unfold ZW;have hf := List.getElem?_eq_getElem hi;have hp := QO (List.getElem_mem hi);obtain ⟨n, hn, har⟩ := w.argOf hp;have hv := v_rarg w har i 0 5000 _ (by omega) (Nat.le_refl _) hf (by rw [zR]; rfl);have hb := zzV w har;simp only [dlt hi, if_true];rw [show (⟨(i : Int), (0 : Int)⟩ : Pl) = ⟨(i : Int), ((0 : Nat) : Int)⟩ from rfl, show (5000 : Int) = ((5000 : Nat) : Int) from rfl, hv];simp only [Option.bind_some, hf, Option.some.injEq, exists_eq_left'];by_cases hc : 20 < (argOf p p.flows[i].name p.flows[i].e).ops.length
  ·rw [if_pos (by rw [decide_eq_true_eq]; omega)];exact .inl ⟨rfl, hb.2 hc⟩
  ·rw [if_neg (by rw [decide_eq_true_eq]; omega)];exact .inr ⟨rfl, fun h => hc (hb.1 h)⟩) (by
  unfold ZW;simp only [dge, Bool.false_eq_true, if_false])
 obtain ⟨r', h3, h4⟩ := Qz (n := (plP 0 p.flows).length) (by omega) (f := ZV p (plP 0 p.flows) Zr Qi Jm) (fun k => ∃ x, (cls (spP p.flows))[k]? = some x ∧ ∃ (j : Nat) (y : Expr), x.2.args[j]? = some y ∧ Big p (zd x.1 j) y) (fun _ => true) (fun k hk => by
  unfold ZV;have hkc : k < (cls (spP p.flows)).length := by omega
  have hx := List.getElem?_eq_getElem hkc;obtain ⟨j, a, f, g1, g2, g3, g4⟩ := w.pl hx;generalize (cls (spP p.flows))[k] = x at *;obtain ⟨hjl, hje⟩ := List.getElem?_eq_some_iff.1 g2;have hs := (w.fit.flow f (List.mem_of_getElem? g2)).size;have hp : (x.1, x.2) ∈ spP p.flows := List.mem_flatMap.2 ⟨f, List.mem_of_getElem? g2, List.mem_of_getElem? g3⟩;have hxs := w.psize hp;have hse := zE x.2;have hll := JO x.2.args;have hgp : qB (plP 0 p.flows) (k : Int) = some ⟨(j : Int), (a : Int)⟩ := by
   rw [qy hk, ← List.getElem?_eq_getElem hk];exact g1
  have hg : qB p.flows (j : Int) = some f := by rw [qy hjl, hje]
  have hr := v_rget f.e f.name a x (by omega) g3;obtain ⟨r, h5, h6⟩ := qL (f := ZU (k : Int) x.2 p (plP 0 p.flows) Zr Qi) (fun i v => v = (((1 + qF (x.2.args.take i) : Nat) : Int), (i : Int)) ∧ ∀ (i' : Nat) (y : Expr), i' < i → x.2.args[i']? = some y → ¬ Big p (zd x.1 i') y) x.2.args.length (fun r : Bool ⊕ Unit => (r = .inl true ∧ ∃ (j : Nat) (y : Expr), x.2.args[j]? = some y ∧ Big p (zd x.1 j) y) ∨ (r = .inr () ∧ ¬ ∃ (j : Nat) (y : Expr), x.2.args[j]? = some y ∧ Big p (zd x.1 j) y)) (fun i v hi hv => by
   obtain ⟨rfl, hno⟩ := hv;unfold ZU;have hsi := ZF hi;have hv := v_rargs w g2 g3 hi;obtain ⟨n, hn, har⟩ := w.argOf (ZQ hp hi);have hb := zzV w har;simp only [dlt hi, if_true, hgp, Option.bind_some];rw [zn (n := (a : Int) + ((1 + qF (x.2.args.take i) : Nat) : Int)) (by omega) (by omega), show (a : Int) + ((1 + qF (x.2.args.take i) : Nat) : Int) = ((a + (1 + qF (x.2.args.take i)) : Nat) : Int) by omega, hv];simp only [Option.bind_some];by_cases hc : 20 < (argOf p (zd x.1 i) x.2.args[i]).ops.length
   ·rw [if_pos (by rw [decide_eq_true_eq]; omega)];exact .inr ⟨_, rfl, .inl ⟨rfl, i, _, List.getElem?_eq_getElem hi, hb.2 hc⟩⟩
   ·rw [if_neg (by rw [decide_eq_true_eq]; omega)];simp only [qy hi, Option.bind_some];have h5 := qqS x.2.args[i] 0 0 (by omega);rw [show (⟨(0 : Int), (0 : Int)⟩ : Pl) = ⟨((0 : Nat) : Int), ((0 : Nat) : Int)⟩ from rfl, h5];simp only [Option.bind_some];refine .inl ⟨_, rfl, ?_, fun i' y hi' hy => ?_⟩
    ·rw [zn (n := ((1 + qF (x.2.args.take i) : Nat) : Int) + ((za x.2.args[i] : Nat) : Int)) (by omega) (by omega), zc hi (by omega), ZB hi];congr 1;omega
    ·by_cases e : i' = i
     ·subst e;rw [List.getElem?_eq_getElem hi] at hy;obtain rfl := Option.some.inj hy;exact fun h => hc (hb.1 h)
     ·exact hno i' y (by omega) hy) (fun v hv => by
   obtain ⟨rfl, hno⟩ := hv;unfold ZU;simp only [dge, Bool.false_eq_true, if_false];exact ⟨_, rfl, .inr ⟨rfl, fun ⟨j, y, hy, hb⟩ => hno j y (List.getElem?_eq_some_iff.1 hy).1 hy hb⟩⟩) (v0 := ((1 : Int), (0 : Int))) ⟨by simp [qF], fun i' y h => by omega⟩
  simp only [dlt hk, if_true, hgp, Option.bind_some, hg, hr];rw [h5];rcases h6 with ⟨rfl, h6⟩ | ⟨rfl, h6⟩
  ·exact .inl ⟨rfl, x, hx, h6⟩
  ·refine .inr ⟨rfl, fun ⟨x', hx', h⟩ => h6 ?_⟩;rw [hx] at hx';obtain rfl := Option.some.inj hx';exact h) (by
  unfold ZV;simp only [dge, Bool.false_eq_true, if_false])
 unfold zzR B_law08_long;rw [h1];rcases h2 with ⟨i, hi, rfl, hq, _⟩ | ⟨rfl, hq⟩
 ·exact ⟨true, rfl, fun _ => .inl ⟨i, hq⟩, fun _ => rfl⟩
 ·simp only [Option.bind_some];rw [h3];rcases h4 with ⟨k, hk, rfl, hq', _⟩ | ⟨rfl, hq'⟩
  ·exact ⟨true, rfl, fun _ => .inr ⟨k, hq'⟩, fun _ => rfl⟩
  ·refine ⟨false, rfl, fun h => (by cases h), fun h => ?_⟩;rcases h with ⟨i, f, hf, hb⟩ | ⟨k, x, hx, hb⟩
   ·exact absurd ⟨f, hf, hb⟩ (hq i (List.getElem?_eq_some_iff.1 hf).1)
   ·exact absurd ⟨x, hx, hb⟩ (hq' k (by have := (List.getElem?_eq_some_iff.1 hx).1; omega))
end Go.Proofs.Ytohmmfimedgccaa.E
end
section
namespace Go.Proofs.Ytohmmfimedgccaa.E
set_option maxRecDepth 100000
set_option maxHeartbeats 4000000
set_option linter.unusedVariables false
set_option linter.unusedSimpArgs false
noncomputable def Qm (y16 : ((List Clock) × Int × Int)) (y19 : (Flat × Int × Int)) (y21 : (List qd)) (a0 : Program) (f11 : Program → ByteArray → Option Int) (f12 : Program → (List qd) → qd → Int → Option (Arg × Bool)) (f13 : Arg → Arg → Option Bool) : Int → Option (Int ⊕ (Bool ⊕ Unit))
 | v81 =>
  if (decide (v81 < ((List.length a0.outputs : Nat) : Int))) then
   ((qB a0.outputs v81).bind fun y87 =>
   (f11 a0 y87.flow).bind fun y89 =>
   (f12 a0 y21 (qd.mk (IntKind.i64.wrap (y89 - ((List.length a0.inputs : Nat) : Int))) (0 : Int)) (5000 : Int)).bind fun y92 =>
   (if (!y92.2) then
    some false
   else
    (qB y19.1.tells v81).bind fun y94 =>
    (f13 y94.arg y92.1).bind fun y96 =>
    some (!y96)).bind fun w98 =>
   (if ((!y92.2) || w98) then
    some false
   else
    (qB y19.1.tells v81).bind fun y100 =>
    (qB y16.1 (IntKind.i64.wrap (y89 - ((List.length a0.inputs : Nat) : Int)))).bind fun y102 =>
    some (!(decide (y100.clock.period = y102.period) && (decide (y100.clock.phase = y102.phase))))).bind fun w104 =>
   (if (((!y92.2) || w98) || w104) then
    some false
   else
    (qB y19.1.tells v81).bind fun y106 =>
    (qB a0.outputs v81).bind fun y108 =>
    some (!decide (y106.deadline = y108.deadline))).bind fun w110 =>
   if ((((!y92.2) || w98) || w104) || w110) then
    some (.inl false)
   else
    some (.inr ()) : Option (Bool ⊕ Unit)).bind fun x => match x with
   | .inl r => some (.inr (.inl r))
   | .inr _ =>
    some (.inl (IntKind.i64.wrap (v81 + (1 : Int))))
  else
   some (.inr (.inr ()))
noncomputable def Qn (y19 : (Flat × Int × Int)) (y21 : (List qd)) (a0 : Program) (f10 : Program → (List qd) → qd → Task → Option Bool) (f9 : Program → ByteArray → Option Int) (f8 : Expr → Int → Option Expr) : Int → Option (Int ⊕ (Bool ⊕ Unit))
 | v49 =>
  if (decide (v49 < ((List.length y21 : Nat) : Int))) then
   ((qB y21 v49).bind fun y55 =>
   (qB a0.flows y55.flow).bind fun y57 =>
   (f8 y57.e y55.at_).bind fun y59 =>
   (qB y19.1.tasks v49).bind fun y63 =>
   (f9 a0 y59.name).bind fun y66 =>
   (if (!decide (y63.node = y66)) then
    some false
   else
    (qB y21 v49).bind fun y68 =>
    (f10 a0 y21 y68 y63).bind fun y70 =>
    some (!y70)).bind fun w72 =>
   if ((!decide (y63.node = y66)) || w72) then
    some (.inl false)
   else
    some (.inr ()) : Option (Bool ⊕ Unit)).bind fun x => match x with
   | .inl r => some (.inr (.inl r))
   | .inr _ =>
    some (.inl (IntKind.i64.wrap (v49 + (1 : Int))))
  else
   some (.inr (.inr ()))
noncomputable def B_law08_FlatMakes (f0 : Program → Option Bool) (f1 : Program → Option Bool) (f2 : Program → Option ((List Clock) × Int × Int)) (f3 : Option Bool) (f4 : Program → (List Clock) → Option (Flat × Int × Int)) (f5 : Program → Option (List qd)) (f6 : Program → (List qd) → Option Bool) (f7 : Flat → Option Bool) (f8 : Expr → Int → Option Expr) (f9 : Program → ByteArray → Option Int) (f10 : Program → (List qd) → qd → Task → Option Bool) (f11 : Program → ByteArray → Option Int) (f12 : Program → (List qd) → qd → Int → Option (Arg × Bool)) (f13 : Arg → Arg → Option Bool) (a0 : Program) : Option Bool :=
 (f3).bind fun y1 =>
 (if (!y1) then
  some false
 else
  (f0 a0).bind fun y3 =>
  some (!y3)).bind fun w5 =>
 (if ((!y1) || w5) then
  some false
 else
  (f1 a0).bind fun y7 =>
  some (!y7)).bind fun w9 =>
 if (((!y1) || w5) || w9) then
  (f3).bind fun y14 =>
  some y14
 else
  (f2 a0).bind fun y16 =>
  if (!decide (y16.2.2 = (0 : Int))) then
   some true
  else
   (f4 a0 y16.1).bind fun y19 =>
   (f5 a0).bind fun y21 =>
   if (!decide (y19.2.2 = (0 : Int))) then
    (if ((decide (y19.2.2 = (8 : Int))) && (decide (((List.length y19.1.tasks : Nat) : Int) = (0 : Int)))) then
     (if (decide ((30 : Int) < ((List.length y21 : Nat) : Int))) then
      some false
     else
      (f6 a0 y21).bind fun y24 =>
      some y24).bind fun w26 =>
     some ((decide ((30 : Int) < ((List.length y21 : Nat) : Int))) || w26)
    else
     some false).bind fun w28 =>
    some (((decide (y19.2.2 = (8 : Int))) && (decide (((List.length y19.1.tasks : Nat) : Int) = (0 : Int)))) && w28)
   else
    (if (decide ((30 : Int) < ((List.length y21 : Nat) : Int))) then
     some false
    else
     (f6 a0 y21).bind fun y33 =>
     some y33).bind fun w35 =>
    (if ((decide ((30 : Int) < ((List.length y21 : Nat) : Int))) || w35) then
     some false
    else
     (f7 y19.1).bind fun y37 =>
     some (!y37)).bind fun w39 =>
    if ((((((decide ((30 : Int) < ((List.length y21 : Nat) : Int))) || w35) || w39) || (!decide (((List.length y19.1.tasks : Nat) : Int) = ((List.length y21 : Nat) : Int)))) || (!decide (((List.length y19.1.inputs : Nat) : Int) = ((List.length a0.inputs : Nat) : Int)))) || (!decide (((List.length y19.1.tells : Nat) : Int) = ((List.length a0.outputs : Nat) : Int)))) then
     some false
    else
     (qz (Qn y19 y21 a0 f10 f9 f8) (0 : Int) : Option (Bool ⊕ Unit)).bind fun x => match x with
     | .inl r => some r
     | .inr _ =>
      (qz (Qm y16 y19 y21 a0 f11 f12 f13) (0 : Int) : Option (Bool ⊕ Unit)).bind fun x => match x with
      | .inl r => some r
      | .inr _ =>
       some true
abbrev C5_0 (z0 : Env) (z1 : (List qd)) : Prop := eS z0 9 qd.cl z1
theorem W_law08_FlatMakes (f0 f1 f2 f3 f4 f5 f6 f7 f8 f9 f10 f11 f12 f13) (S0 : Sat_ref04_Right f0) (S1 : Sat_ref06_Names f1) (S2 : Sat_check_Clocks f2) (S3 : Sat_law08_awake f3) (S4 : Sat_flat_Make f4) (S5 : Sat_ref08_All f5) (S6 : Sat_law08_long f6) (S7 : Sat_ref08_Right f7) (S8 : Sat_ref08_Get f8) (S9 : Sat_ref06_Node f9) (S10 : Sat_law08_args f10) (S11 : Sat_ref06_Flow f11) (S12 : Sat_ref08_Arg f12) (S13 : Sat_ref08_Same f13) : Sat_law08_FlatMakes (B_law08_FlatMakes f0 f1 f2 f3 f4 f5 f6 f7 f8 f9 f10 f11 f12 f13) := by
 intro a0 r h σ K hK;refine qZ Try.func5 rfl rfl (by kernel_rfl) ?_;unfold B_law08_FlatMakes at h;have hP := Pre.refl σ;have E0 : qD [(.ag (Program.cl a0))] 0 = (.ag (Program.cl a0)) := rfl;have TT := cj18 Arg.cle Clock.cle Expr.cle Expr.rlen Flat.cle Flow.cle Output.cle Program.cle T_2 T_22 T_23 T_24 T_25 T_27 T_3 T_30 T_33 (QJ T_37 T_39 T_41 T_43 T_46 T_47 T_49 T_52 T_58 T_59 T_61 T_65 T_66 T_68 T_73 T_9 T_96 Task.cle Tell.cle qd.cle);refine qk (fun e s => ∃ i1 : Nat, Bx σ s i1 27 (Program.cl a0) ∧ eP e 1 i1 ∧ Pre σ s) ?_ ?_
 ·refine w_x (cj2 E0 TT) ?_;exact qg ⟨σ.length, (Bx.new hP _ _), (xv (cj2 E0 TT)), (hP.app _)⟩
 rintro e s ⟨i1, X1, E1, hP⟩
 refine qm ?_;obtain ⟨y1, h2, h⟩ := qb h;obtain ⟨w5, h6, h⟩ := qb h;obtain ⟨w9, h10, h⟩ := qb h;refine qk (fun e s => Bx σ s i1 27 (Program.cl a0) ∧ eP e 1 i1 ∧ eB e 28 (((!y1) || w5) || w9) ∧ Pre σ s) ?_ ?_
 ·cases hb11 : (!y1)
  ·replace h6 := qU (by simp only [hb11, Bool.or_true, Bool.true_or, Bool.or_false, Bool.false_or, Bool.and_true, Bool.true_and, Bool.and_false, Bool.false_and, Bool.not_true, Bool.not_false, cond_true, cond_false]) h6;obtain ⟨y3, h4, h6⟩ := qb h6;obtain rfl := qa h6;cases hb12 : (!y3)
   ·replace h10 := qU (by simp only [hb11, hb12, Bool.or_true, Bool.true_or, Bool.or_false, Bool.false_or, Bool.and_true, Bool.true_and, Bool.and_false, Bool.false_and, Bool.not_true, Bool.not_false, cond_true, cond_false]) h10;obtain ⟨y7, h8, h10⟩ := qb h10;obtain rfl := qa h10;have q1 := cj5 E1 X1.get hb11 hb12 TT;refine w_x q1 ?_;refine S3 _ h2 _ _  ?_;refine w_y q1 ?_;refine S0 _ _ h4 _ _  ?_;refine w_y q1 ?_;refine S1 _ _ h8 _ _  ?_;refine w_y q1 ?_;exact qg ⟨X1, E1, (xv q1), hP⟩
   ·replace h10 := qN (by simp only [hb11, hb12, Bool.or_true, Bool.true_or, Bool.or_false, Bool.false_or, Bool.and_true, Bool.true_and, Bool.and_false, Bool.false_and, Bool.not_true, Bool.not_false, cond_true, cond_false]) h10;obtain rfl := qa h10;have q2 := cj5 E1 X1.get hb11 hb12 TT;refine w_x q2 ?_;refine S3 _ h2 _ _  ?_;refine w_y q2 ?_;refine S0 _ _ h4 _ _  ?_;refine w_y q2 ?_;exact qg ⟨X1, E1, (xv q2), hP⟩
  ·replace h6 := qN (by simp only [hb11, Bool.or_true, Bool.true_or, Bool.or_false, Bool.false_or, Bool.and_true, Bool.true_and, Bool.and_false, Bool.false_and, Bool.not_true, Bool.not_false, cond_true, cond_false]) h6;obtain rfl := qa h6;replace h10 := qN (by simp only [hb11, Bool.or_true, Bool.true_or, Bool.or_false, Bool.false_or, Bool.and_true, Bool.true_and, Bool.and_false, Bool.false_and, Bool.not_true, Bool.not_false, cond_true, cond_false]) h10;obtain rfl := qa h10;have q3 := cj4 E1 X1.get hb11 TT;refine w_x q3 ?_;refine S3 _ h2 _ _  ?_;refine w_y q3 ?_;exact qg ⟨X1, E1, (xv q3), hP⟩
 rintro e s ⟨X1, E1, E28, hP⟩
 refine qe ?_;rcases qj h with ⟨hb13, h⟩ | ⟨hb13, h⟩
 ·refine xt (cj2 E28 hb13) (qe ?_);obtain ⟨y14, h15, h⟩ := qb h;refine w_x Expr.rlen ?_;refine S3 _ h15 _ _  ?_;refine w_y Expr.rlen ?_;refine qf (qp (qW ?_));obtain rfl := qa h;exact qr (fun _ => rfl) (xr (rs := #[.tmp 2]) TT) hP (.refl _) (.v _) hK
 ·refine xf (cj2 E28 hb13) (qn (qf (qe ?_)));obtain ⟨y16, h17, h⟩ := qb h;refine w_x (cj3 E1 X1.get TT) ?_;refine S2 _ _ h17 _ _  ?_;refine w_y (cj3 E1 X1.get TT) ?_;refine qf (qm (qe (w_x TT ?_)));refine qf (qe ?_);rcases qj h with ⟨hb18, h⟩ | ⟨hb18, h⟩
  ·refine xt hb18 (qe (w_x Expr.rlen ?_));refine qf (qp (qW ?_));obtain rfl := qa h;exact qr (fun _ => rfl) (xr (rs := #[.tmp 2]) TT) hP (.refl _) (.v _) hK
  ·refine xf hb18 (qn (qf ?_));obtain ⟨y19, h20, h⟩ := qb h;refine qk (fun e s => ∃ i6 : Nat, Bx σ s i1 27 (Program.cl a0) ∧ Bx σ s i6 49 (Flat.cl y19.1) ∧ eP e 1 i1 ∧ eS e 3 Clock.cl y16.1 ∧ eP e 6 i6 ∧ eI e 8 y19.2.2 ∧ Pre σ s) ?_ ?_
   ·have q4 := cj3 E1 X1.g3 TT;refine w_x q4 ?_;refine S4 _ _ _ h20 _ _  ?_;refine w_y q4 ?_;exact qg ⟨s.length, (X1.app _), (Bx.new hP _ _), E1, (xv q4), (xv q4), (xv q4), (hP.app _)⟩
   rintro e s ⟨i6, X1, X6, E1, E3, E6, E8, hP⟩
   refine qe ?_;obtain ⟨y21, h22, h⟩ := qb h;refine w_x (cj3 E1 X1.get TT) ?_;refine S5 _ _ h22 _ _  ?_;refine w_y (cj3 E1 X1.get TT) ?_;refine qf (qm (qe (w_x (cj2 E8 TT) ?_)));refine qf (qe ?_);rcases qj h with ⟨hb23, h⟩ | ⟨hb23, h⟩
   ·refine xt hb23 ?_;obtain ⟨w28, h29, h⟩ := qb h;refine qk (fun e s => eB e 2 (((decide (y19.2.2 = (8 : Int))) && (decide (((List.length y19.1.tasks : Nat) : Int) = (0 : Int)))) && w28) ∧ Pre σ s) ?_ ?_
    ·cases hb30 : (decide (y19.2.2 = (8 : Int)))
     ·replace h29 := qU (by simp only [hb30, Bool.or_true, Bool.true_or, Bool.or_false, Bool.false_or, Bool.and_true, Bool.true_and, Bool.and_false, Bool.false_and, Bool.not_true, Bool.not_false, cond_true, cond_false]) h29;obtain rfl := qa h29;have q5 := cj7 E1 E6 E8 X1.get X6.get hb30 TT;refine w_x q5 ?_;exact qg ⟨(xv q5), hP⟩
     ·cases hb31 : (decide (((List.length y19.1.tasks : Nat) : Int) = (0 : Int)))
      ·replace h29 := qU (by simp only [hb30, hb31, Bool.or_true, Bool.true_or, Bool.or_false, Bool.false_or, Bool.and_true, Bool.true_and, Bool.and_false, Bool.false_and, Bool.not_true, Bool.not_false, cond_true, cond_false]) h29;obtain rfl := qa h29;have q6 := cj8 E1 E6 E8 X1.get X6.get hb30 hb31 TT;refine w_x q6 ?_;exact qg ⟨(xv q6), hP⟩
      ·replace h29 := qN (by simp only [hb30, hb31, Bool.or_true, Bool.true_or, Bool.or_false, Bool.false_or, Bool.and_true, Bool.true_and, Bool.and_false, Bool.false_and, Bool.not_true, Bool.not_false, cond_true, cond_false]) h29;obtain ⟨w26, h27, h29⟩ := qb h29;obtain rfl := qa h29;cases hb32 : (decide ((30 : Int) < ((List.length y21 : Nat) : Int)))
       ·replace h27 := qU (by simp only [hb30, hb31, hb32, Bool.or_true, Bool.true_or, Bool.or_false, Bool.false_or, Bool.and_true, Bool.true_and, Bool.and_false, Bool.false_and, Bool.not_true, Bool.not_false, cond_true, cond_false]) h27;obtain ⟨y24, h25, h27⟩ := qb h27;obtain rfl := qa h27;have q7 := cj9 E1 E6 E8 X1.get X6.get hb30 hb31 hb32 TT;refine w_x q7 ?_;refine S6 _ _ _ h25 _ _  ?_;refine w_y q7 ?_;exact qg ⟨(xv q7), hP⟩
       ·replace h27 := qN (by simp only [hb30, hb31, hb32, Bool.or_true, Bool.true_or, Bool.or_false, Bool.false_or, Bool.and_true, Bool.true_and, Bool.and_false, Bool.false_and, Bool.not_true, Bool.not_false, cond_true, cond_false]) h27;obtain rfl := qa h27;have q8 := cj9 E1 E6 E8 X1.get X6.get hb30 hb31 hb32 TT;refine w_x q8 ?_;exact qg ⟨(xv q8), hP⟩
    rintro e s ⟨E2, hP⟩
    refine qp (qW ?_);obtain rfl := qa h;exact qr (fun _ => rfl) (xr (rs := #[.tmp 2]) (cj2 E2 TT)) hP (.refl _) (.v _) hK
   ·refine xf hb23 (qn (qf (qm ?_)));obtain ⟨w35, h36, h⟩ := qb h;obtain ⟨w39, h40, h⟩ := qb h;refine qk (fun e s => Bx σ s i1 27 (Program.cl a0) ∧ Bx σ s i6 49 (Flat.cl y19.1) ∧ eP e 1 i1 ∧ eS e 3 Clock.cl y16.1 ∧ eP e 6 i6 ∧ C5_0 e y21 ∧ eB e 105 ((((((decide ((30 : Int) < ((List.length y21 : Nat) : Int))) || w35) || w39) || (!decide (((List.length y19.1.tasks : Nat) : Int) = ((List.length y21 : Nat) : Int)))) || (!decide (((List.length y19.1.inputs : Nat) : Int) = ((List.length a0.inputs : Nat) : Int)))) || (!decide (((List.length y19.1.tells : Nat) : Int) = ((List.length a0.outputs : Nat) : Int)))) ∧ Pre σ s) ?_ ?_
    ·cases hb41 : (decide ((30 : Int) < ((List.length y21 : Nat) : Int)))
     ·replace h36 := qU (by simp only [hb41, Bool.or_true, Bool.true_or, Bool.or_false, Bool.false_or, Bool.and_true, Bool.true_and, Bool.and_false, Bool.false_and, Bool.not_true, Bool.not_false, cond_true, cond_false]) h36;obtain ⟨y33, h34, h36⟩ := qb h36;obtain rfl := qa h36;cases hb42 : y33
      ·replace h40 := qU (by simp only [hb41, hb42, Bool.or_true, Bool.true_or, Bool.or_false, Bool.false_or, Bool.and_true, Bool.true_and, Bool.and_false, Bool.false_and, Bool.not_true, Bool.not_false, cond_true, cond_false]) h40;obtain ⟨y37, h38, h40⟩ := qb h40;obtain rfl := qa h40;cases hb43 : (!y37)
       ·cases hb44 : (!decide (((List.length y19.1.tasks : Nat) : Int) = ((List.length y21 : Nat) : Int)))
        ·cases hb45 : (!decide (((List.length y19.1.inputs : Nat) : Int) = ((List.length a0.inputs : Nat) : Int)))
         ·have q9 := Qy E1 E6 X1.get X6.get hb41 hb42 hb43 hb44 hb45 TT;refine w_x q9 ?_;refine S6 _ _ _ h34 _ _  ?_;refine w_y q9 ?_;refine S7 _ _ h38 _ _  ?_;refine w_y q9 ?_;exact qg ⟨X1, X6, E1, E3, E6, (xv q9), (xv q9), hP⟩
         ·have q10 := Qy E1 E6 X1.get X6.get hb41 hb42 hb43 hb44 hb45 TT;refine w_x q10 ?_;refine S6 _ _ _ h34 _ _  ?_;refine w_y q10 ?_;refine S7 _ _ h38 _ _  ?_;refine w_y q10 ?_;exact qg ⟨X1, X6, E1, E3, E6, (xv q10), (xv q10), hP⟩
        ·have q11 := cj9 E1 E6 X1.get X6.get hb41 hb42 hb43 hb44 TT;refine w_x q11 ?_;refine S6 _ _ _ h34 _ _  ?_;refine w_y q11 ?_;refine S7 _ _ h38 _ _  ?_;refine w_y q11 ?_;exact qg ⟨X1, X6, E1, E3, E6, (xv q11), (xv q11), hP⟩
       ·have q12 := cj8 E1 E6 X1.get X6.get hb41 hb42 hb43 TT;refine w_x q12 ?_;refine S6 _ _ _ h34 _ _  ?_;refine w_y q12 ?_;refine S7 _ _ h38 _ _  ?_;refine w_y q12 ?_;exact qg ⟨X1, X6, E1, E3, E6, (xv q12), (xv q12), hP⟩
      ·replace h40 := qN (by simp only [hb41, hb42, Bool.or_true, Bool.true_or, Bool.or_false, Bool.false_or, Bool.and_true, Bool.true_and, Bool.and_false, Bool.false_and, Bool.not_true, Bool.not_false, cond_true, cond_false]) h40;obtain rfl := qa h40;have q13 := cj7 E1 E6 X1.get X6.get hb41 hb42 TT;refine w_x q13 ?_;refine S6 _ _ _ h34 _ _  ?_;refine w_y q13 ?_;exact qg ⟨X1, X6, E1, E3, E6, (xv q13), (xv q13), hP⟩
     ·replace h36 := qN (by simp only [hb41, Bool.or_true, Bool.true_or, Bool.or_false, Bool.false_or, Bool.and_true, Bool.true_and, Bool.and_false, Bool.false_and, Bool.not_true, Bool.not_false, cond_true, cond_false]) h36;obtain rfl := qa h36;replace h40 := qN (by simp only [hb41, Bool.or_true, Bool.true_or, Bool.or_false, Bool.false_or, Bool.and_true, Bool.true_and, Bool.and_false, Bool.false_and, Bool.not_true, Bool.not_false, cond_true, cond_false]) h40;obtain rfl := qa h40;have q14 := cj6 E1 E6 X1.get X6.get hb41 TT;refine w_x q14 ?_;exact qg ⟨X1, X6, E1, E3, E6, (xv q14), (xv q14), hP⟩
    rintro e s ⟨X1, X6, E1, E3, E6, E9, E105, hP⟩
    refine qe ?_;rcases qj h with ⟨hb46, h⟩ | ⟨hb46, h⟩
    ·refine xt (cj2 E105 hb46) (qe (w_x Expr.rlen ?_));refine qf (qp (qW ?_));obtain rfl := qa h;exact qr (fun _ => rfl) (xr (rs := #[.tmp 2]) TT) hP (.refl _) (.v _) hK
    ·refine xf (cj2 E105 hb46) (qn (qf (qm (qe (w_x Expr.rlen ?_)))));refine qf ?_;obtain ⟨x47, h48, h⟩ := qb h;refine qk (fun e s => .inr () = x47 ∧ Bx σ s i1 27 (Program.cl a0) ∧ Bx σ s i6 49 (Flat.cl y19.1) ∧ eP e 1 i1 ∧ eS e 3 Clock.cl y16.1 ∧ eP e 6 i6 ∧ C5_0 e y21 ∧ Pre σ s) ?_ ?_
     ·refine qo (qH h48 (fun v e s => ∃ v49, v49 = v ∧ Bx σ s i1 27 (Program.cl a0) ∧ Bx σ s i6 49 (Flat.cl y19.1) ∧ eP e 1 i1 ∧ eS e 3 Clock.cl y16.1 ∧ eP e 6 i6 ∧ C5_0 e y21 ∧ eI e 10 v49 ∧ Pre σ s) ⟨_, WkE.refl _, _, rfl, X1, X6, E1, E3, E6, E9, (xv TT), hP⟩ ?_)
      rintro v x50 e s hf51 ⟨v49, rfl, X1, X6, E1, E3, E6, E9, E10, hP⟩
      unfold Qn at hf51;(try dsimp only at hf51);refine qm (qe (w_x (cj3 E9 E10 TT) ?_));refine qf (qe ?_);rcases qj hf51 with ⟨hb52, hf51⟩ | ⟨hb52, hf51⟩
      ·refine xt hb52 (qn (qf ?_));obtain ⟨x53, h54, hf51⟩ := qb hf51;refine qk (fun e s => .inr () = x53 ∧ Bx σ s i1 27 (Program.cl a0) ∧ Bx σ s i6 49 (Flat.cl y19.1) ∧ eP e 1 i1 ∧ eS e 3 Clock.cl y16.1 ∧ eP e 6 i6 ∧ C5_0 e y21 ∧ eI e 10 v49 ∧ Pre σ s) ?_ ?_
       ·refine qo ?_;obtain ⟨y55, h56, h54⟩ := qb h54;obtain ⟨y57, h58, h54⟩ := qb h54;obtain ⟨y59, h60, h54⟩ := qb h54;refine qk (fun e s => ∃ i11 : Nat, Bx σ s i1 27 (Program.cl a0) ∧ Bx σ s i11 39 (Expr.cl y59) ∧ Bx σ s i6 49 (Flat.cl y19.1) ∧ eP e 1 i1 ∧ eS e 3 Clock.cl y16.1 ∧ eP e 6 i6 ∧ C5_0 e y21 ∧ eI e 10 v49 ∧ eP e 11 i11 ∧ Pre σ s) ?_ ?_
        ·have R61 := qA (f := qd.cl) (qh h56).2;have R62 := qA (f := Flow.cl) (qh h58).2;have q15 := X1.app [some (AObj.box 39 (Expr.cl y59))];have q16 := Bx.at hP (l := [some (AObj.box 39 (Expr.cl y59))]) (j := 0) (t := 39) (c := (Expr.cl y59)) rfl;have q17 := qqp E1 E9 E10 X1.g3 R61 (qh h56).1 R62 (qh h58).1 q15.get q16.get TT;refine zh 18 1 q17 ?_;refine S8 _ _ _ h60 _ _  ?_;refine Ql q17 ?_ ;refine qY q17 ?_;exact qg ⟨(s.length), q15, q16, (X6.app _), E1, E3, E6, E9, E10, (xv q17), (hP.app _)⟩
        rintro e s ⟨i11, X1, X11, X6, E1, E3, E6, E9, E10, E11, hP⟩
        obtain ⟨y63, h64, h54⟩ := qb h54;refine qk (fun e s => ∃ i12 : Nat, Bx σ s i1 27 (Program.cl a0) ∧ Bx σ s i11 39 (Expr.cl y59) ∧ Bx σ s i12 61 (Task.cl y63) ∧ Bx σ s i6 49 (Flat.cl y19.1) ∧ eP e 1 i1 ∧ eS e 3 Clock.cl y16.1 ∧ eP e 6 i6 ∧ C5_0 e y21 ∧ eI e 10 v49 ∧ eP e 11 i11 ∧ eP e 12 i12 ∧ Pre σ s) ?_ ?_
        ·have R65 := qA (f := Task.cl) (qh h64).2;have q18 := cj6 E6 E10 X6.g3 R65 (qh h64).1 TT;refine w_x q18 ?_;exact qg ⟨s.length, (X1.app _), (X11.app _), (Bx.new hP _ _), (X6.app _), E1, E3, E6, E9, E10, E11, (xv q18), (hP.app _)⟩
        rintro e s ⟨i12, X1, X11, X12, X6, E1, E3, E6, E9, E10, E11, E12, hP⟩
        obtain ⟨y66, h67, h54⟩ := qb h54;obtain ⟨w72, h73, h54⟩ := qb h54;refine qk (fun e s => Bx σ s i1 27 (Program.cl a0) ∧ Bx σ s i6 49 (Flat.cl y19.1) ∧ eP e 1 i1 ∧ eS e 3 Clock.cl y16.1 ∧ eP e 6 i6 ∧ C5_0 e y21 ∧ eI e 10 v49 ∧ eB e 150 ((!decide (y63.node = y66)) || w72) ∧ Pre σ s) ?_ ?_
        ·cases hb74 : (!decide (y63.node = y66))
         ·replace h73 := qU (by simp only [hb74, Bool.or_true, Bool.true_or, Bool.or_false, Bool.false_or, Bool.and_true, Bool.true_and, Bool.and_false, Bool.false_and, Bool.not_true, Bool.not_false, cond_true, cond_false]) h73;obtain ⟨y68, h69, h73⟩ := qb h73;obtain ⟨y70, h71, h73⟩ := qb h73;obtain rfl := qa h73;have R75 := qA (f := qd.cl) (qh h69).2;have q19 := Jx E1 E9 E10 E11 E12 X1.get X11.get X12.get hb74 R75 (qh h69).1 TT;refine zh 15 0 q19 ?_;refine S9 _ _ _ h67 _ _  ?_;refine Ql q19 ?_ ;refine qY q19 ?_;refine S10 _ _ _ _ _ h71 _ _  ?_;refine w_y q19 ?_;exact qg ⟨X1, X6, E1, E3, E6, E9, E10, (xv q19), hP⟩
         ·replace h73 := qN (by simp only [hb74, Bool.or_true, Bool.true_or, Bool.or_false, Bool.false_or, Bool.and_true, Bool.true_and, Bool.and_false, Bool.false_and, Bool.not_true, Bool.not_false, cond_true, cond_false]) h73;obtain rfl := qa h73;have q20 := Qy E1 E9 E10 E11 E12 X1.get X11.get X12.get hb74 TT;refine zh 15 0 q20 ?_;refine S9 _ _ _ h67 _ _  ?_;refine Ql q20 ?_ ;refine qY q20 ?_;exact qg ⟨X1, X6, E1, E3, E6, E9, E10, (xv q20), hP⟩
        rintro e s ⟨X1, X6, E1, E3, E6, E9, E10, E150, hP⟩
        rcases qj h54 with ⟨hb76, h54⟩ | ⟨hb76, h54⟩
        ·refine xt (cj2 E150 hb76) (qe (w_x Expr.rlen ?_));refine qf (qp (qx ?_));obtain rfl := qa h54;refine qC ?_;(try dsimp only at hf51);obtain rfl := qa hf51;refine zk rfl fun hr77 => ?_;obtain rfl := hr77;refine qx (qC ?_);(try dsimp only at h);obtain rfl := qa h;exact qr (fun _ => rfl) (xr (rs := #[.tmp 2]) TT) hP (.refl _) (.v _) hK
        ·refine xf (cj2 E150 hb76) (qn (qP ?_));obtain rfl := qa h54;exact qg ⟨rfl, X1, X6, E1, E3, E6, E9, E10, hP⟩
       rintro e s ⟨rfl, X1, X6, E1, E3, E6, E9, E10, hP⟩
       (try dsimp only at hf51);refine w_x (cj2 E10 TT) ?_;obtain rfl := qa hf51;exact qT rfl ⟨_, rfl, X1, X6, E1, E3, E6, E9, (xv (cj2 E10 TT)), hP⟩
      ·refine xf hb52 (qE (qM ?_));obtain rfl := qa hf51;refine qS rfl fun hr78 => ?_;obtain rfl := hr78;exact qK (qg ⟨rfl, X1, X6, E1, E3, E6, E9, hP⟩)
     rintro e s ⟨rfl, X1, X6, E1, E3, E6, E9, hP⟩
     (try dsimp only at h);refine qm (qe (w_x Expr.rlen ?_));refine qf ?_;obtain ⟨x79, h80, h⟩ := qb h;refine qk (fun e s => .inr () = x79 ∧ Pre σ s) ?_ ?_
     ·refine qo (qH h80 (fun v e s => ∃ v81, v81 = v ∧ Bx σ s i1 27 (Program.cl a0) ∧ Bx σ s i6 49 (Flat.cl y19.1) ∧ eP e 1 i1 ∧ eS e 3 Clock.cl y16.1 ∧ eP e 6 i6 ∧ C5_0 e y21 ∧ eI e 13 v81 ∧ Pre σ s) ⟨_, WkE.refl _, _, rfl, X1, X6, E1, E3, E6, E9, (xv TT), hP⟩ ?_)
      rintro v x82 e s hf83 ⟨v81, rfl, X1, X6, E1, E3, E6, E9, E13, hP⟩
      unfold Qm at hf83;(try dsimp only at hf83);refine qm (qe (w_x (cj4 E1 E13 X1.get TT) ?_));refine qf (qe ?_);rcases qj hf83 with ⟨hb84, hf83⟩ | ⟨hb84, hf83⟩
      ·refine xt hb84 (qn (qf ?_));obtain ⟨x85, h86, hf83⟩ := qb hf83;refine qk (fun e s => .inr () = x85 ∧ Bx σ s i1 27 (Program.cl a0) ∧ Bx σ s i6 49 (Flat.cl y19.1) ∧ eP e 1 i1 ∧ eS e 3 Clock.cl y16.1 ∧ eP e 6 i6 ∧ C5_0 e y21 ∧ eI e 13 v81 ∧ Pre σ s) ?_ ?_
       ·refine qo ?_;obtain ⟨y87, h88, h86⟩ := qb h86;obtain ⟨y89, h90, h86⟩ := qb h86;refine qk (fun e s => Bx σ s i1 27 (Program.cl a0) ∧ Bx σ s i6 49 (Flat.cl y19.1) ∧ eP e 1 i1 ∧ eS e 3 Clock.cl y16.1 ∧ eP e 6 i6 ∧ C5_0 e y21 ∧ eI e 13 v81 ∧ eI e 14 (IntKind.i64.wrap (y89 - ((List.length a0.inputs : Nat) : Int))) ∧ Pre σ s) ?_ ?_
        ·have R91 := qA (f := Output.cl) (qh h88).2;have q21 := cj6 E1 E13 X1.get R91 (qh h88).1 TT;refine zh 11 0 q21 ?_;refine S11 _ _ _ h90 _ _  ?_;refine Ql q21 ?_ ;refine qY q21 ?_;exact qg ⟨X1, X6, E1, E3, E6, E9, E13, (xv q21), hP⟩
        rintro e s ⟨X1, X6, E1, E3, E6, E9, E13, E14, hP⟩
        obtain ⟨y92, h93, h86⟩ := qb h86;refine qk (fun e s => ∃ i15 : Nat, Bx σ s i1 27 (Program.cl a0) ∧ Bx σ s i15 68 (Arg.cl y92.1) ∧ Bx σ s i6 49 (Flat.cl y19.1) ∧ eP e 1 i1 ∧ eS e 3 Clock.cl y16.1 ∧ eP e 6 i6 ∧ C5_0 e y21 ∧ eI e 13 v81 ∧ eI e 14 (IntKind.i64.wrap (y89 - ((List.length a0.inputs : Nat) : Int))) ∧ eP e 15 i15 ∧ eB e 16 y92.2 ∧ Pre σ s) ?_ ?_
        ·have q22 := cj5 E1 E9 E14 X1.g3 TT;refine w_x q22 ?_;refine S12 _ _ _ _ _ h93 _ _  ?_;refine w_y q22 ?_;exact qg ⟨s.length, (X1.app _), (Bx.new hP _ _), (X6.app _), E1, E3, E6, E9, E13, E14, (xv q22), (xv q22), (hP.app _)⟩
        rintro e s ⟨i15, X1, X15, X6, E1, E3, E6, E9, E13, E14, E15, E16, hP⟩
        obtain ⟨w98, h99, h86⟩ := qb h86;obtain ⟨w104, h105, h86⟩ := qb h86;obtain ⟨w110, h111, h86⟩ := qb h86;refine qk (fun e s => Bx σ s i1 27 (Program.cl a0) ∧ Bx σ s i6 49 (Flat.cl y19.1) ∧ eP e 1 i1 ∧ eS e 3 Clock.cl y16.1 ∧ eP e 6 i6 ∧ C5_0 e y21 ∧ eI e 13 v81 ∧ eB e 218 ((((!y92.2) || w98) || w104) || w110) ∧ Pre σ s) ?_ ?_
        ·cases hb112 : (!y92.2)
         ·replace h99 := qU (by simp only [hb112, Bool.or_true, Bool.true_or, Bool.or_false, Bool.false_or, Bool.and_true, Bool.true_and, Bool.and_false, Bool.false_and, Bool.not_true, Bool.not_false, cond_true, cond_false]) h99;obtain ⟨y94, h95, h99⟩ := qb h99;obtain ⟨y96, h97, h99⟩ := qb h99;obtain rfl := qa h99;have R113 := qA (f := Tell.cl) (qh h95).2;cases hb114 : (!y96)
          ·replace h105 := qU (by simp only [hb112, hb114, Bool.or_true, Bool.true_or, Bool.or_false, Bool.false_or, Bool.and_true, Bool.true_and, Bool.and_false, Bool.false_and, Bool.not_true, Bool.not_false, cond_true, cond_false]) h105;obtain ⟨y100, h101, h105⟩ := qb h105;obtain ⟨y102, h103, h105⟩ := qb h105;obtain rfl := qa h105;obtain rfl : y94 = y100 := qa (h95.symm.trans h101);have R115 := qA (f := Clock.cl) (qh h103).2;cases hb116 : (!(decide (y94.clock.period = y102.period) && (decide (y94.clock.phase = y102.phase))))
           ·replace h111 := qU (by simp only [hb112, hb114, hb116, Bool.or_true, Bool.true_or, Bool.or_false, Bool.false_or, Bool.and_true, Bool.true_and, Bool.and_false, Bool.false_and, Bool.not_true, Bool.not_false, cond_true, cond_false]) h111;obtain ⟨y106, h107, h111⟩ := qb h111;obtain ⟨y108, h109, h111⟩ := qb h111;obtain rfl := qa h111;obtain rfl : y94 = y106 := qa (h95.symm.trans h107);have R117 := qA (f := Output.cl) (qh h109).2;have q23 := QJ E1 E3 E6 E13 E14 E15 E16 X1.get X15.get X6.get hb112 R113 (qh h95).1 hb114 R115 (qh h103).1 hb116 R117 (qh h109).1 TT;refine zh 39 0 q23 ?_;refine S13 _ _ _ h97 _ _  ?_;refine Ql q23 ?_ ;refine qY q23 ?_;exact qg ⟨X1, X6, E1, E3, E6, E9, E13, (xv q23), hP⟩
           ·replace h111 := qN (by simp only [hb112, hb114, hb116, Bool.or_true, Bool.true_or, Bool.or_false, Bool.false_or, Bool.and_true, Bool.true_and, Bool.and_false, Bool.false_and, Bool.not_true, Bool.not_false, cond_true, cond_false]) h111;obtain rfl := qa h111;have q24 := cj18 E1 E3 E6 E13 E14 E15 E16 X1.get X15.get X6.get hb112 R113 (qh h95).1 hb114 R115 (qh h103).1 hb116 TT;refine zh 39 0 q24 ?_;refine S13 _ _ _ h97 _ _  ?_;refine Ql q24 ?_ ;refine qY q24 ?_;exact qg ⟨X1, X6, E1, E3, E6, E9, E13, (xv q24), hP⟩
          ·replace h105 := qN (by simp only [hb112, hb114, Bool.or_true, Bool.true_or, Bool.or_false, Bool.false_or, Bool.and_true, Bool.true_and, Bool.and_false, Bool.false_and, Bool.not_true, Bool.not_false, cond_true, cond_false]) h105;obtain rfl := qa h105;replace h111 := qN (by simp only [hb112, hb114, Bool.or_true, Bool.true_or, Bool.or_false, Bool.false_or, Bool.and_true, Bool.true_and, Bool.and_false, Bool.false_and, Bool.not_true, Bool.not_false, cond_true, cond_false]) h111;obtain rfl := qa h111;have q25 := cj15 E1 E3 E6 E13 E14 E15 E16 X1.get X15.get X6.get hb112 R113 (qh h95).1 hb114 TT;refine zh 39 0 q25 ?_;refine S13 _ _ _ h97 _ _  ?_;refine Ql q25 ?_ ;refine qY q25 ?_;exact qg ⟨X1, X6, E1, E3, E6, E9, E13, (xv q25), hP⟩
         ·replace h99 := qN (by simp only [hb112, Bool.or_true, Bool.true_or, Bool.or_false, Bool.false_or, Bool.and_true, Bool.true_and, Bool.and_false, Bool.false_and, Bool.not_true, Bool.not_false, cond_true, cond_false]) h99;obtain rfl := qa h99;replace h105 := qN (by simp only [hb112, Bool.or_true, Bool.true_or, Bool.or_false, Bool.false_or, Bool.and_true, Bool.true_and, Bool.and_false, Bool.false_and, Bool.not_true, Bool.not_false, cond_true, cond_false]) h105;obtain rfl := qa h105;replace h111 := qN (by simp only [hb112, Bool.or_true, Bool.true_or, Bool.or_false, Bool.false_or, Bool.and_true, Bool.true_and, Bool.and_false, Bool.false_and, Bool.not_true, Bool.not_false, cond_true, cond_false]) h111;obtain rfl := qa h111;have q26 := Jx E1 E3 E6 E13 E14 E15 E16 X1.get X15.get X6.get hb112 TT;refine zh 39 0 q26 ?_;refine qY q26 ?_;exact qg ⟨X1, X6, E1, E3, E6, E9, E13, (xv q26), hP⟩
        rintro e s ⟨X1, X6, E1, E3, E6, E9, E13, E218, hP⟩
        rcases qj h86 with ⟨hb118, h86⟩ | ⟨hb118, h86⟩
        ·refine xt (cj2 E218 hb118) (qe (w_x Expr.rlen ?_));refine qf (qp (qx ?_));obtain rfl := qa h86;refine qC ?_;(try dsimp only at hf83);obtain rfl := qa hf83;refine zk rfl fun hr119 => ?_;obtain rfl := hr119;refine qx (qC ?_);(try dsimp only at h);obtain rfl := qa h;exact qr (fun _ => rfl) (xr (rs := #[.tmp 2]) TT) hP (.refl _) (.v _) hK
        ·refine xf (cj2 E218 hb118) (qn (qP ?_));obtain rfl := qa h86;exact qg ⟨rfl, X1, X6, E1, E3, E6, E9, E13, hP⟩
       rintro e s ⟨rfl, X1, X6, E1, E3, E6, E9, E13, hP⟩
       (try dsimp only at hf83);refine w_x (cj2 E13 TT) ?_;obtain rfl := qa hf83;exact qT rfl ⟨_, rfl, X1, X6, E1, E3, E6, E9, (xv (cj2 E13 TT)), hP⟩
      ·refine xf hb84 (qE (qM ?_));obtain rfl := qa hf83;refine qS rfl fun hr120 => ?_;obtain rfl := hr120;exact qK (qg ⟨rfl, hP⟩)
     rintro e s ⟨rfl, hP⟩
     (try dsimp only at h);refine qe (w_x Expr.rlen ?_);refine qf (qp ?_);obtain rfl := qa h;exact qr (fun _ => rfl) (xr (rs := #[.tmp 2]) TT) hP (.refl _) (.v _) hK
noncomputable def B_law08_awake (f0 : Flat → Option Bool) (f1 : Flat → Int → Option (Clock × Bool)) : Option Bool :=
 (f1 (Flat.mk ([(Clock.mk (3 : Int) (0 : Int))]) ([]) ([]) ([])) (0 : Int)).bind fun y1 =>
 (if (y1.2 && (decide (y1.1.period = (3 : Int)))) then
  (f0 (Flat.mk ([]) ([]) ([]) ([]))).bind fun y3 =>
  some y3
 else
  some false).bind fun w5 =>
 some ((y1.2 && (decide (y1.1.period = (3 : Int)))) && w5)
theorem W_law08_awake (f0 f1) (S0 : Sat_flat_Right f0) (S1 : Sat_flat_Source f1) : Sat_law08_awake (B_law08_awake f0 f1) := by
 intro r h σ K hK;refine qZ Try.func17 rfl rfl (by kernel_rfl) ?_;unfold B_law08_awake at h;have hP := Pre.refl σ;have TT := Qy Clock.cle Expr.rlen T_2 T_22 T_3 T_33 T_43 T_46 T_47 T_49;refine qe (w_x Expr.rlen ?_);refine qf ?_;obtain ⟨y1, h2, h⟩ := qb h;refine qk (fun e s => ∃ i1 : Nat, Bx σ s i1 43 (Clock.cl y1.1) ∧ eP e 1 i1 ∧ eB e 2 y1.2 ∧ Pre σ s) ?_ ?_
 ·refine w_x TT ?_;refine EC.wka (.cons (Wk.agl (.cons (Wk.of_eq rfl) (.cons .e0 (.cons .e0 (.cons .e0 .nil))))) (.cons (.refl _) .nil)) (S1 _ _ _ h2 _ _  ?_);refine w_y TT ?_;exact qg ⟨σ.length, (Bx.new hP _ _), (xv TT), (xv TT), (hP.app _)⟩
 rintro e s ⟨i1, X1, E1, E2, hP⟩
 obtain ⟨w5, h6, h⟩ := qb h;refine qk (fun e s => eB e 0 ((y1.2 && (decide (y1.1.period = (3 : Int)))) && w5) ∧ Pre σ s) ?_ ?_
 ·cases hb7 : y1.2
  ·replace h6 := qU (by simp only [hb7, Bool.or_true, Bool.true_or, Bool.or_false, Bool.false_or, Bool.and_true, Bool.true_and, Bool.and_false, Bool.false_and, Bool.not_true, Bool.not_false, cond_true, cond_false]) h6;obtain rfl := qa h6;refine w_x (cj5 E1 E2 X1.get hb7 TT) ?_;exact qg ⟨(xv (cj5 E1 E2 X1.get hb7 TT)), hP⟩
  ·cases hb8 : (decide (y1.1.period = (3 : Int)))
   ·replace h6 := qU (by simp only [hb7, hb8, Bool.or_true, Bool.true_or, Bool.or_false, Bool.false_or, Bool.and_true, Bool.true_and, Bool.and_false, Bool.false_and, Bool.not_true, Bool.not_false, cond_true, cond_false]) h6;obtain rfl := qa h6;refine w_x (cj6 E1 E2 X1.get hb7 hb8 TT) ?_;exact qg ⟨(xv (cj6 E1 E2 X1.get hb7 hb8 TT)), hP⟩
   ·replace h6 := qN (by simp only [hb7, hb8, Bool.or_true, Bool.true_or, Bool.or_false, Bool.false_or, Bool.and_true, Bool.true_and, Bool.and_false, Bool.false_and, Bool.not_true, Bool.not_false, cond_true, cond_false]) h6;obtain ⟨y3, h4, h6⟩ := qb h6;obtain rfl := qa h6;have q1 := cj6 E1 E2 X1.get hb7 hb8 TT;refine w_x q1 ?_;refine EC.wka (.cons (Wk.agl (.cons .e0 (.cons .e0 (.cons .e0 (.cons .e0 .nil))))) .nil) (S0 _ _ h4 _ _  ?_);refine w_y q1 ?_;exact qg ⟨(xv q1), hP⟩
 rintro e s ⟨E0, hP⟩
 refine qp ?_;obtain rfl := qa h;exact qr (fun _ => rfl) (xr (rs := #[.tmp 0]) (cj2 E0 TT)) hP (.refl _) (.v _) hK
noncomputable def B_flat_Right (f0 : (List Clock) → (Clock → Option Bool) → Option Bool) (f1 : Clock → Option Bool) (f2 : (List Node) → (Node → Option Bool) → Option Bool) (f3 : Node → Option Bool) (f4 : (List Task) → (Task → Option Bool) → Option Bool) (f5 : Task → Flat → Option Bool) (f6 : (List Tell) → (Tell → Option Bool) → Option Bool) (f7 : Tell → Flat → Option Bool) (a0 : Flat) : Option Bool :=
 (if (decide (((List.length a0.tasks : Nat) : Int) ≤ (30 : Int))) then
  (f0 a0.inputs (fun z0 => f1 z0)).bind fun y1 =>
  some (!y1)
 else
  some false).bind fun w3 =>
 (if ((decide (((List.length a0.tasks : Nat) : Int) ≤ (30 : Int))) && w3) then
  (f2 a0.nodes (fun z0 => f3 z0)).bind fun y5 =>
  some (!y5)
 else
  some false).bind fun w7 =>
 (if (((decide (((List.length a0.tasks : Nat) : Int) ≤ (30 : Int))) && w3) && w7) then
  (f4 a0.tasks (fun z0 => f5 z0 a0)).bind fun y9 =>
  some (!y9)
 else
  some false).bind fun w11 =>
 (if ((((decide (((List.length a0.tasks : Nat) : Int) ≤ (30 : Int))) && w3) && w7) && w11) then
  (f6 a0.tells (fun z0 => f7 z0 a0)).bind fun y13 =>
  some (!y13)
 else
  some false).bind fun w15 =>
 some (((((decide (((List.length a0.tasks : Nat) : Int) ≤ (30 : Int))) && w3) && w7) && w11) && w15)
theorem W_flat_Right (f0 f1 f2 f3 f4 f5 f6 f7) (S0 : Sat_slices_ContainsFunc_Clock f0) (S1 : Sat_flat_Right_c1 f1) (S2 : Sat_slices_ContainsFunc_Node f2) (S3 : Sat_flat_Right_c2 f3) (S4 : Sat_slices_ContainsFunc_Task f4) (S5 : Sat_flat_Right_c3 f5) (S6 : Sat_slices_ContainsFunc_Tell f6) (S7 : Sat_flat_Right_c4 f7) : Sat_flat_Right (B_flat_Right f0 f1 f2 f3 f4 f5 f6 f7) := by
 intro a0 r h σ K hK;refine qZ Try.func30 rfl rfl (by kernel_rfl) ?_;unfold B_flat_Right at h;have hP := Pre.refl σ;have E0 : qD [(.ag (Flat.cl a0))] 0 = (.ag (Flat.cl a0)) := rfl;have TT := cj16 Expr.rlen Flat.cle T_137 T_142 T_145 T_147 T_22 T_3 T_33 T_43 T_46 T_47 T_49 T_61 T_73 T_99;refine qk (fun e s => ∃ i1 : Nat, Bx σ s i1 49 (Flat.cl a0) ∧ eP e 1 i1 ∧ Pre σ s) ?_ ?_
 ·refine w_x (cj2 E0 TT) ?_;exact qg ⟨σ.length, (Bx.new hP _ _), (xv (cj2 E0 TT)), (hP.app _)⟩
 rintro e s ⟨i1, X1, E1, hP⟩
 obtain ⟨w3, h4, h⟩ := qb h;obtain ⟨w7, h8, h⟩ := qb h;obtain ⟨w11, h12, h⟩ := qb h;obtain ⟨w15, h16, h⟩ := qb h;refine qk (fun e s => eB e 2 (((((decide (((List.length a0.tasks : Nat) : Int) ≤ (30 : Int))) && w3) && w7) && w11) && w15) ∧ Pre σ s) ?_ ?_
 ·cases hb17 : (decide (((List.length a0.tasks : Nat) : Int) ≤ (30 : Int)))
  ·replace h4 := qU (by simp only [hb17, Bool.or_true, Bool.true_or, Bool.or_false, Bool.false_or, Bool.and_true, Bool.true_and, Bool.and_false, Bool.false_and, Bool.not_true, Bool.not_false, cond_true, cond_false]) h4;obtain rfl := qa h4;replace h8 := qU (by simp only [hb17, Bool.or_true, Bool.true_or, Bool.or_false, Bool.false_or, Bool.and_true, Bool.true_and, Bool.and_false, Bool.false_and, Bool.not_true, Bool.not_false, cond_true, cond_false]) h8;obtain rfl := qa h8;replace h12 := qU (by simp only [hb17, Bool.or_true, Bool.true_or, Bool.or_false, Bool.false_or, Bool.and_true, Bool.true_and, Bool.and_false, Bool.false_and, Bool.not_true, Bool.not_false, cond_true, cond_false]) h12;obtain rfl := qa h12;replace h16 := qU (by simp only [hb17, Bool.or_true, Bool.true_or, Bool.or_false, Bool.false_or, Bool.and_true, Bool.true_and, Bool.and_false, Bool.false_and, Bool.not_true, Bool.not_false, cond_true, cond_false]) h16;obtain rfl := qa h16;refine w_x (cj4 E1 X1.get hb17 TT) ?_;exact qg ⟨(xv (cj4 E1 X1.get hb17 TT)), hP⟩
  ·replace h4 := qN (by simp only [hb17, Bool.or_true, Bool.true_or, Bool.or_false, Bool.false_or, Bool.and_true, Bool.true_and, Bool.and_false, Bool.false_and, Bool.not_true, Bool.not_false, cond_true, cond_false]) h4;obtain ⟨y1, h2, h4⟩ := qb h4;obtain rfl := qa h4;cases hb18 : (!y1)
   ·replace h8 := qU (by simp only [hb17, hb18, Bool.or_true, Bool.true_or, Bool.or_false, Bool.false_or, Bool.and_true, Bool.true_and, Bool.and_false, Bool.false_and, Bool.not_true, Bool.not_false, cond_true, cond_false]) h8;obtain rfl := qa h8;replace h12 := qU (by simp only [hb17, hb18, Bool.or_true, Bool.true_or, Bool.or_false, Bool.false_or, Bool.and_true, Bool.true_and, Bool.and_false, Bool.false_and, Bool.not_true, Bool.not_false, cond_true, cond_false]) h12;obtain rfl := qa h12;replace h16 := qU (by simp only [hb17, hb18, Bool.or_true, Bool.true_or, Bool.or_false, Bool.false_or, Bool.and_true, Bool.true_and, Bool.and_false, Bool.false_and, Bool.not_true, Bool.not_false, cond_true, cond_false]) h16;obtain rfl := qa h16;have q1 := cj5 E1 X1.get hb17 hb18 TT;refine w_x q1 ?_;refine S0 _ _ _ h2 _ _ _ _ (fun z0 b hg s' K hq hk => by obtain ⟨ex, rfl⟩ := hq; exact S1 z0 b hg _ _   hk) ?_;refine w_y q1 ?_;exact qg ⟨(xv q1), hP⟩
   ·replace h8 := qN (by simp only [hb17, hb18, Bool.or_true, Bool.true_or, Bool.or_false, Bool.false_or, Bool.and_true, Bool.true_and, Bool.and_false, Bool.false_and, Bool.not_true, Bool.not_false, cond_true, cond_false]) h8;obtain ⟨y5, h6, h8⟩ := qb h8;obtain rfl := qa h8;cases hb19 : (!y5)
    ·replace h12 := qU (by simp only [hb17, hb18, hb19, Bool.or_true, Bool.true_or, Bool.or_false, Bool.false_or, Bool.and_true, Bool.true_and, Bool.and_false, Bool.false_and, Bool.not_true, Bool.not_false, cond_true, cond_false]) h12;obtain rfl := qa h12;replace h16 := qU (by simp only [hb17, hb18, hb19, Bool.or_true, Bool.true_or, Bool.or_false, Bool.false_or, Bool.and_true, Bool.true_and, Bool.and_false, Bool.false_and, Bool.not_true, Bool.not_false, cond_true, cond_false]) h16;obtain rfl := qa h16;have q2 := cj6 E1 X1.get hb17 hb18 hb19 TT;refine w_x q2 ?_;refine S0 _ _ _ h2 _ _ _ _ (fun z0 b hg s' K hq hk => by obtain ⟨ex, rfl⟩ := hq; exact S1 z0 b hg _ _   hk) ?_;refine w_y q2 ?_;refine S2 _ _ _ h6 _ _ _ _ (fun z0 b hg s' K hq hk => by obtain ⟨ex, rfl⟩ := hq; exact S3 z0 b hg _ _   hk) ?_;refine w_y q2 ?_;exact qg ⟨(xv q2), hP⟩
    ·replace h12 := qN (by simp only [hb17, hb18, hb19, Bool.or_true, Bool.true_or, Bool.or_false, Bool.false_or, Bool.and_true, Bool.true_and, Bool.and_false, Bool.false_and, Bool.not_true, Bool.not_false, cond_true, cond_false]) h12;obtain ⟨y9, h10, h12⟩ := qb h12;obtain rfl := qa h12;cases hb20 : (!y9)
     ·replace h16 := qU (by simp only [hb17, hb18, hb19, hb20, Bool.or_true, Bool.true_or, Bool.or_false, Bool.false_or, Bool.and_true, Bool.true_and, Bool.and_false, Bool.false_and, Bool.not_true, Bool.not_false, cond_true, cond_false]) h16;obtain rfl := qa h16;have q3 := cj7 E1 X1.get hb17 hb18 hb19 hb20 TT;refine w_x q3 ?_;refine S0 _ _ _ h2 _ _ _ _ (fun z0 b hg s' K hq hk => by obtain ⟨ex, rfl⟩ := hq; exact S1 z0 b hg _ _   hk) ?_;refine w_y q3 ?_;refine S2 _ _ _ h6 _ _ _ _ (fun z0 b hg s' K hq hk => by obtain ⟨ex, rfl⟩ := hq; exact S3 z0 b hg _ _   hk) ?_;refine w_y q3 ?_;refine S4 _ _ _ h10 _ _ _ _ (fun z0 b hg s' K hq hk => by obtain ⟨ex, rfl⟩ := hq; exact S5 z0 _ b hg _ _ _  (X1.gx.app ex) hk) ?_;refine w_y q3 ?_;exact qg ⟨(xv q3), hP⟩
     ·replace h16 := qN (by simp only [hb17, hb18, hb19, hb20, Bool.or_true, Bool.true_or, Bool.or_false, Bool.false_or, Bool.and_true, Bool.true_and, Bool.and_false, Bool.false_and, Bool.not_true, Bool.not_false, cond_true, cond_false]) h16;obtain ⟨y13, h14, h16⟩ := qb h16;obtain rfl := qa h16;have q4 := cj7 E1 X1.get hb17 hb18 hb19 hb20 TT;refine w_x q4 ?_;refine S0 _ _ _ h2 _ _ _ _ (fun z0 b hg s' K hq hk => by obtain ⟨ex, rfl⟩ := hq; exact S1 z0 b hg _ _   hk) ?_;refine w_y q4 ?_;refine S2 _ _ _ h6 _ _ _ _ (fun z0 b hg s' K hq hk => by obtain ⟨ex, rfl⟩ := hq; exact S3 z0 b hg _ _   hk) ?_;refine w_y q4 ?_;refine S4 _ _ _ h10 _ _ _ _ (fun z0 b hg s' K hq hk => by obtain ⟨ex, rfl⟩ := hq; exact S5 z0 _ b hg _ _ _  (X1.gx.app ex) hk) ?_;refine w_y q4 ?_;refine S6 _ _ _ h14 _ _ _ _ (fun z0 b hg s' K hq hk => by obtain ⟨ex, rfl⟩ := hq; exact S7 z0 _ b hg _ _ _  (X1.gx.app ex) hk) ?_;refine w_y q4 ?_;exact qg ⟨(xv q4), hP⟩
 rintro e s ⟨E2, hP⟩
 refine qp ?_;obtain rfl := qa h;exact qr (fun _ => rfl) (xr (rs := #[.tmp 2]) (cj2 E2 TT)) hP (.refl _) (.v _) hK
noncomputable def B_flat_Source (a0 : Flat) (a1 : Int) : Option (Clock × Bool) :=
 (if ((decide (a1 < (0 : Int))) || (decide ((IntKind.i64.wrap (((List.length a0.inputs : Nat) : Int) + ((List.length a0.tasks : Nat) : Int))) ≤ a1))) then
  some (.inl ((Clock.mk (0 : Int) (0 : Int)), false))
 else
  if (decide (a1 < ((List.length a0.inputs : Nat) : Int))) then
   (qB a0.inputs a1).bind fun y7 =>
   some (.inl (y7, true))
  else
   some (.inr (Clock.mk (0 : Int) (0 : Int))) : Option ((Clock × Bool) ⊕ Clock)).bind fun x => match x with
 | .inl r => some r
 | .inr v3 =>
  (qB a0.tasks (IntKind.i64.wrap (a1 - ((List.length a0.inputs : Nat) : Int)))).bind fun y10 =>
  some (y10.clock, true)
abbrev C31_0 (z0 z1 : Store) (z2 : Nat) : Prop := Bx z0 z1 z2 43 [(.v (.int .i64 (0 : Int))), (.v (.int .i64 (0 : Int)))]
theorem W_flat_Source : Sat_flat_Source (B_flat_Source) := by
 intro a0 a1 r h σ K hK;refine qZ Try.func31 rfl rfl (by kernel_rfl) ?_;unfold B_flat_Source at h;have hP := Pre.refl σ;have E0 : qD [(.ag (Flat.cl a0)), (.v (.int .i64 a1))] 0 = (.ag (Flat.cl a0)) := rfl;have E1 : qD [(.ag (Flat.cl a0)), (.v (.int .i64 a1))] 1 = (.v (.int .i64 a1)) := rfl;have TT := qqo Clock.cle Expr.rlen Flat.cle T_2 T_22 T_3 T_33 T_43 T_46 T_47 T_49 T_59 T_61 Task.cle;refine qk (fun e s => ∃ i2 i4 : Nat, Bx σ s i2 49 (Flat.cl a0) ∧ C31_0 σ s i4 ∧ eI e 1 a1 ∧ eP e 2 i2 ∧ eP e 4 i4 ∧ i2 ≠ i4 ∧ Pre σ s) ?_ ?_
 ·refine w_x (cj2 E0 TT) ?_;exact qg ⟨σ.length, (σ ++ [some (AObj.box 49 (Flat.cl a0))]).length, ((Bx.new hP 49 (Flat.cl a0)).app [some (AObj.box 43 [(.v (.int .i64 (0 : Int))), (.v (.int .i64 (0 : Int)))])]), (Bx.new (hP.app _) 43 [(.v (.int .i64 (0 : Int))), (.v (.int .i64 (0 : Int)))]), E1, (xv (cj2 E0 TT)), (xv (cj2 E0 TT)), (Nat.ne_of_lt (Bx.new hP 49 (Flat.cl a0)).lt), ((hP.app _).app _)⟩
 rintro e s ⟨i2, i4, X2, X4, E1, E2, E4, N2__4, hP⟩
 obtain ⟨x1, h2, h⟩ := qb h;refine qk (fun e s => ∃ v3 : Clock, .inr v3 = x1 ∧ Bx σ s i2 49 (Flat.cl a0) ∧ Bx σ s i4 43 (Clock.cl v3) ∧ eI e 1 a1 ∧ eP e 2 i2 ∧ eP e 4 i4 ∧ i2 ≠ i4 ∧ Pre σ s) ?_ ?_
 ·refine qo (qk (fun e s => Bx σ s i2 49 (Flat.cl a0) ∧ C31_0 σ s i4 ∧ eI e 1 a1 ∧ eP e 2 i2 ∧ eP e 4 i4 ∧ eB e 6 ((decide (a1 < (0 : Int))) || (decide ((IntKind.i64.wrap (((List.length a0.inputs : Nat) : Int) + ((List.length a0.tasks : Nat) : Int))) ≤ a1))) ∧ i2 ≠ i4 ∧ Pre σ s) ?_ ?_)
  ·cases hb4 : (decide (a1 < (0 : Int)))
   ·refine w_x (cj5 E1 E2 X2.get hb4 TT) ?_;exact qg ⟨X2, X4, E1, E2, E4, (xv (cj5 E1 E2 X2.get hb4 TT)), N2__4, hP⟩
   ·refine w_x (cj5 E1 E2 X2.get hb4 TT) ?_;exact qg ⟨X2, X4, E1, E2, E4, (xv (cj5 E1 E2 X2.get hb4 TT)), N2__4, hP⟩
  rintro e s ⟨X2, X4, E1, E2, E4, E6, N2__4, hP⟩
  rcases qj h2 with ⟨hb5, h2⟩ | ⟨hb5, h2⟩
  ·refine xt (cj2 E6 hb5) (qk (fun e s => C31_0 σ s i4 ∧ eP e 4 i4 ∧ eB e 5 false ∧ Pre σ s) ?_ ?_)
   ·have q1 := X4.same 43 [(.v (.int .i64 (0 : Int))), (.v (.int .i64 (0 : Int)))];refine w_x (cj4 E4 X4.get q1.get TT) ?_;exact qg ⟨q1, E4, (xv (cj4 E4 X4.get q1.get TT)), (hP.set X4.le (some (AObj.box 43 [(.v (.int .i64 (0 : Int))), (.v (.int .i64 (0 : Int)))])))⟩
   rintro e s ⟨X4, E4, E5, hP⟩
   refine qp (qx ?_);obtain rfl := qa h2;refine qC ?_;(try dsimp only at h);obtain rfl := qa h;exact qr (fun _ => rfl) (xr (rs := #[.cell 4 43, .tmp 5]) (cj4 X4.get E4 E5 TT)) hP (.refl _) (.tu (CnL.cons (.ag (CnL.cons (.v _) (CnL.cons (.v _) CnL.nil))) (CnL.cons (.v _) CnL.nil))) hK
  ·refine xf (cj2 E6 hb5) (qe (w_x (cj4 E1 E2 X2.get TT) ?_));refine qf ?_;rcases qj h2 with ⟨hb6, h2⟩ | ⟨hb6, h2⟩
   ·refine xt hb6 ?_;obtain ⟨y7, h8, h2⟩ := qb h2;refine qk (fun e s => Bx σ s i4 43 (Clock.cl y7) ∧ eP e 4 i4 ∧ eB e 5 true ∧ Pre σ s) ?_ ?_
    ·have R9 := qA (f := Clock.cl) (qh h8).2;have q2 := X4.same 43 (Clock.cl y7);have q3 := X2.ne (Ne.symm N2__4) (some (AObj.box 43 (Clock.cl y7)));have q4 := Qy E1 E2 E4 X2.get X4.get R9 (qh h8).1 q3.get q2.get TT;refine w_x q4 ?_;exact qg ⟨q2, E4, (xv q4), (hP.set X4.le (some (AObj.box 43 (Clock.cl y7))))⟩
    rintro e s ⟨X4, E4, E5, hP⟩
    refine qp (qx ?_);obtain rfl := qa h2;refine qC ?_;(try dsimp only at h);obtain rfl := qa h;exact qr (fun _ => rfl) (xr (rs := #[.cell 4 43, .tmp 5]) (cj4 X4.get E4 E5 TT)) hP (.refl _) (.tu (CnL.cons (.ag (CnL.cons (.v _) (CnL.cons (.v _) CnL.nil))) (CnL.cons (.v _) CnL.nil))) hK
   ·refine xf hb6 (qn (qP ?_));obtain rfl := qa h2;exact qg ⟨_, rfl, X2, X4, E1, E2, E4, N2__4, hP⟩
 rintro e s ⟨v3, rfl, X2, X4, E1, E2, E4, N2__4, hP⟩
 (try dsimp only at h);obtain ⟨y10, h11, h⟩ := qb h;refine qk (fun e s => Bx σ s i4 43 (Clock.cl y10.clock) ∧ eP e 4 i4 ∧ eB e 5 true ∧ Pre σ s) ?_ ?_
 ·have R12 := qA (f := Task.cl) (qh h11).2;have q5 := X4.same 43 (Clock.cl y10.clock);have q6 := X2.ne (Ne.symm N2__4) (some (AObj.box 43 (Clock.cl y10.clock)));have q7 := Qy E1 E2 E4 X2.get X4.get R12 (qh h11).1 q6.get q5.get TT;refine w_x q7 ?_;exact qg ⟨q5, E4, (xv q7), (hP.set X4.le (some (AObj.box 43 (Clock.cl y10.clock))))⟩
 rintro e s ⟨X4, E4, E5, hP⟩
 refine qp ?_;obtain rfl := qa h;exact qr (fun _ => rfl) (xr (rs := #[.cell 4 43, .tmp 5]) (cj4 X4.get E4 E5 TT)) hP (.refl _) (.tu (CnL.cons (.ag (CnL.cons (.v _) (CnL.cons (.v _) CnL.nil))) (CnL.cons (.v _) CnL.nil))) hK
noncomputable def B_slices_ContainsFunc_Clock (f0 : (List Clock) → (Clock → Option Bool) → Option Int) (a0 : (List Clock)) (a1 : (Clock → Option Bool)) : Option Bool :=
 (f0 a0 a1).bind fun y1 =>
 some (decide ((0 : Int) ≤ y1))
theorem W_slices_ContainsFunc_Clock (f0) (S0 : Sat_slices_IndexFunc_Clock f0) : Sat_slices_ContainsFunc_Clock (B_slices_ContainsFunc_Clock f0) := by
 intro a0 a1 r h σ K fid1 caps1 hg1 hK;refine qZ Try.func63 rfl rfl (by kernel_rfl) ?_;unfold B_slices_ContainsFunc_Clock at h;have hP := Pre.refl σ;have E0 : qD [(.sl (List.map Clock.cl a0)), (.fn fid1 [] caps1)] 0 = (.sl (List.map Clock.cl a0)) := rfl;have E1 : qD [(.sl (List.map Clock.cl a0)), (.fn fid1 [] caps1)] 1 = (.fn fid1 [] caps1) := rfl;have TT := cj5 Expr.rlen T_137 T_3 T_33 T_43;refine qe (w_x Expr.rlen ?_);refine qf (qe ?_);obtain ⟨y1, h2, h⟩ := qb h;refine w_x (cj3 E0 E1 TT) ?_;refine S0 _ _ _ h2 _ _ _ _ (fun z0 b hg s' K hq hk => hg1 z0 b hg s' K (hP.trans hq) hk) ?_;refine w_y (cj3 E0 E1 TT) ?_;refine qf (qp ?_);obtain rfl := qa h;exact qr (fun _ => rfl) (xr (rs := #[.tmp 4]) TT) hP (.refl _) (.v _) hK
noncomputable def B_slices_ContainsFunc_Node (f0 : (List Node) → (Node → Option Bool) → Option Int) (a0 : (List Node)) (a1 : (Node → Option Bool)) : Option Bool :=
 (f0 a0 a1).bind fun y1 =>
 some (decide ((0 : Int) ≤ y1))
theorem W_slices_ContainsFunc_Node (f0) (S0 : Sat_slices_IndexFunc_Node f0) : Sat_slices_ContainsFunc_Node (B_slices_ContainsFunc_Node f0) := by
 intro a0 a1 r h σ K fid1 caps1 hg1 hK;refine qZ Try.func66 rfl rfl (by kernel_rfl) ?_;unfold B_slices_ContainsFunc_Node at h;have hP := Pre.refl σ;have E0 : qD [(.sl (List.map Node.cl a0)), (.fn fid1 [] caps1)] 0 = (.sl (List.map Node.cl a0)) := rfl;have E1 : qD [(.sl (List.map Node.cl a0)), (.fn fid1 [] caps1)] 1 = (.fn fid1 [] caps1) := rfl;have TT := cj5 Expr.rlen T_142 T_22 T_3 T_99;refine qe (w_x Expr.rlen ?_);refine qf (qe ?_);obtain ⟨y1, h2, h⟩ := qb h;refine w_x (cj3 E0 E1 TT) ?_;refine S0 _ _ _ h2 _ _ _ _ (fun z0 b hg s' K hq hk => hg1 z0 b hg s' K (hP.trans hq) hk) ?_;refine w_y (cj3 E0 E1 TT) ?_;refine qf (qp ?_);obtain rfl := qa h;exact qr (fun _ => rfl) (xr (rs := #[.tmp 4]) TT) hP (.refl _) (.v _) hK
noncomputable def B_slices_ContainsFunc_Task (f0 : (List Task) → (Task → Option Bool) → Option Int) (a0 : (List Task)) (a1 : (Task → Option Bool)) : Option Bool :=
 (f0 a0 a1).bind fun y1 =>
 some (decide ((0 : Int) ≤ y1))
theorem W_slices_ContainsFunc_Task (f0) (S0 : Sat_slices_IndexFunc_Task f0) : Sat_slices_ContainsFunc_Task (B_slices_ContainsFunc_Task f0) := by
 intro a0 a1 r h σ K fid1 caps1 hg1 hK;refine qZ Try.func69 rfl rfl (by kernel_rfl) ?_;unfold B_slices_ContainsFunc_Task at h;have hP := Pre.refl σ;have E0 : qD [(.sl (List.map Task.cl a0)), (.fn fid1 [] caps1)] 0 = (.sl (List.map Task.cl a0)) := rfl;have E1 : qD [(.sl (List.map Task.cl a0)), (.fn fid1 [] caps1)] 1 = (.fn fid1 [] caps1) := rfl;have TT := cj5 Expr.rlen T_145 T_3 T_46 T_61;refine qe (w_x Expr.rlen ?_);refine qf (qe ?_);obtain ⟨y1, h2, h⟩ := qb h;refine w_x (cj3 E0 E1 TT) ?_;refine S0 _ _ _ h2 _ _ _ _ (fun z0 b hg s' K hq hk => hg1 z0 b hg s' K (hP.trans hq) hk) ?_;refine w_y (cj3 E0 E1 TT) ?_;refine qf (qp ?_);obtain rfl := qa h;exact qr (fun _ => rfl) (xr (rs := #[.tmp 4]) TT) hP (.refl _) (.v _) hK
noncomputable def B_slices_ContainsFunc_Tell (f0 : (List Tell) → (Tell → Option Bool) → Option Int) (a0 : (List Tell)) (a1 : (Tell → Option Bool)) : Option Bool :=
 (f0 a0 a1).bind fun y1 =>
 some (decide ((0 : Int) ≤ y1))
theorem W_slices_ContainsFunc_Tell (f0) (S0 : Sat_slices_IndexFunc_Tell f0) : Sat_slices_ContainsFunc_Tell (B_slices_ContainsFunc_Tell f0) := by
 intro a0 a1 r h σ K fid1 caps1 hg1 hK;refine qZ Try.func72 rfl rfl (by kernel_rfl) ?_;unfold B_slices_ContainsFunc_Tell at h;have hP := Pre.refl σ;have E0 : qD [(.sl (List.map Tell.cl a0)), (.fn fid1 [] caps1)] 0 = (.sl (List.map Tell.cl a0)) := rfl;have E1 : qD [(.sl (List.map Tell.cl a0)), (.fn fid1 [] caps1)] 1 = (.fn fid1 [] caps1) := rfl;have TT := cj5 Expr.rlen T_147 T_3 T_47 T_73;refine qe (w_x Expr.rlen ?_);refine qf (qe ?_);obtain ⟨y1, h2, h⟩ := qb h;refine w_x (cj3 E0 E1 TT) ?_;refine S0 _ _ _ h2 _ _ _ _ (fun z0 b hg s' K hq hk => hg1 z0 b hg s' K (hP.trans hq) hk) ?_;refine w_y (cj3 E0 E1 TT) ?_;refine qf (qp ?_);obtain rfl := qa h;exact qr (fun _ => rfl) (xr (rs := #[.tmp 4]) TT) hP (.refl _) (.v _) hK
noncomputable def Qx (a0 : (List Clock)) (a1 : (Clock → Option Bool)) : Int → Option (Int ⊕ (Int ⊕ Unit))
 | v3 =>
  if (decide (v3 < ((List.length a0 : Nat) : Int))) then
   ((qB a0 v3).bind fun y9 =>
   (a1 y9).bind fun y11 =>
   if y11 then
    some (.inl v3)
   else
    some (.inr ()) : Option (Int ⊕ Unit)).bind fun x => match x with
   | .inl r => some (.inr (.inl r))
   | .inr _ =>
    some (.inl (IntKind.i64.wrap (v3 + (1 : Int))))
  else
   some (.inr (.inr ()))
noncomputable def B_slices_IndexFunc_Clock (a0 : (List Clock)) (a1 : (Clock → Option Bool)) : Option Int :=
 (qz (Qx a0 a1) (0 : Int) : Option (Int ⊕ Unit)).bind fun x => match x with
 | .inl r => some r
 | .inr _ =>
  some (-1 : Int)
theorem W_slices_IndexFunc_Clock : Sat_slices_IndexFunc_Clock (B_slices_IndexFunc_Clock) := by
 intro a0 a1 r h σ K fid1 caps1 hg1 hK;refine qZ Try.func100 rfl rfl (by kernel_rfl) ?_;unfold B_slices_IndexFunc_Clock at h;have hP := Pre.refl σ;have E0 : qD [(.sl (List.map Clock.cl a0)), (.fn fid1 [] caps1)] 0 = (.sl (List.map Clock.cl a0)) := rfl;have E1 : qD [(.sl (List.map Clock.cl a0)), (.fn fid1 [] caps1)] 1 = (.fn fid1 [] caps1) := rfl;have TT := cj6 Clock.cle Expr.rlen T_2 T_3 T_33 T_43;refine qe (w_x Expr.rlen ?_);refine qf (qm (qe (w_x (cj2 E0 TT) ?_)));refine qf ?_;obtain ⟨x1, h2, h⟩ := qb h;refine qk (fun e s => .inr () = x1 ∧ Pre σ s) ?_ ?_
 ·refine qo (qH h2 (fun v e s => ∃ v3, v3 = v ∧ eS e 0 Clock.cl a0 ∧ e 1 = (.fn fid1 [] caps1) ∧ eL e 7 a0 ∧ eI e 8 v3 ∧ Pre σ s) ⟨_, WkE.refl _, _, rfl, E0, E1, (xv TT), (xv TT), hP⟩ ?_)
  rintro v x4 e s hf5 ⟨v3, rfl, E0, E1, E7, E8, hP⟩
  unfold Qx at hf5;(try dsimp only at hf5);refine qe (w_x (cj3 E7 E8 TT) ?_);refine qf (qe ?_);rcases qj hf5 with ⟨hb6, hf5⟩ | ⟨hb6, hf5⟩
  ·refine xt hb6 (qn (qf ?_));obtain ⟨x7, h8, hf5⟩ := qb hf5;refine qk (fun e s => .inr () = x7 ∧ eS e 0 Clock.cl a0 ∧ e 1 = (.fn fid1 [] caps1) ∧ eL e 7 a0 ∧ eI e 8 v3 ∧ Pre σ s) ?_ ?_
   ·refine qo (qe (w_x (cj2 E8 TT) ?_));refine qf ?_;obtain ⟨y9, h10, h8⟩ := qb h8;obtain ⟨y11, h12, h8⟩ := qb h8;refine qk (fun e s => eS e 0 Clock.cl a0 ∧ e 1 = (.fn fid1 [] caps1) ∧ eI e 5 v3 ∧ eL e 7 a0 ∧ eI e 8 v3 ∧ eB e 16 y11 ∧ Pre σ s) ?_ ?_
    ·have R13 := qA (f := Clock.cl) (qh h10).2;have q1 := cj5 E0 E1 R13 (qh h10).1 TT;refine w_x q1 ?_;refine hg1 _  _ h12  _ _ hP ?_;refine w_y q1 ?_;exact qg ⟨E0, E1, (xv q1), E7, E8, (xv q1), hP⟩
    rintro e s ⟨E0, E1, E5, E7, E8, E16, hP⟩
    rcases qj h8 with ⟨hb14, h8⟩ | ⟨hb14, h8⟩
    ·refine xt (cj2 E16 hb14) (qe (w_x (cj2 E5 TT) ?_));refine qf (qp (qx ?_));obtain rfl := qa h8;refine qC ?_;(try dsimp only at hf5);obtain rfl := qa hf5;refine zk rfl fun hr15 => ?_;obtain rfl := hr15;refine qx (qC ?_);(try dsimp only at h);obtain rfl := qa h;exact qr (fun _ => rfl) (xr (rs := #[.tmp 4]) TT) hP (.refl _) (.v _) hK
    ·refine xf (cj2 E16 hb14) (qn (qP ?_));obtain rfl := qa h8;exact qg ⟨rfl, E0, E1, E7, E8, hP⟩
   rintro e s ⟨rfl, E0, E1, E7, E8, hP⟩
   (try dsimp only at hf5);refine w_x (cj2 E8 TT) ?_;obtain rfl := qa hf5;exact qT rfl ⟨_, rfl, E0, E1, E7, (xv (cj2 E8 TT)), hP⟩
  ·refine xf hb6 (qE (qM ?_));obtain rfl := qa hf5;refine qS rfl fun hr16 => ?_;obtain rfl := hr16;exact qK (qg ⟨rfl, hP⟩)
 rintro e s ⟨rfl, hP⟩
 (try dsimp only at h);refine qe (w_x Expr.rlen ?_);refine qf (qp ?_);obtain rfl := qa h;exact qr (fun _ => rfl) (xr (rs := #[.tmp 4]) TT) hP (.refl _) (.v _) hK
noncomputable def QF (a0 : (List Task)) (a1 : (Task → Option Bool)) : Int → Option (Int ⊕ (Int ⊕ Unit))
 | v3 =>
  if (decide (v3 < ((List.length a0 : Nat) : Int))) then
   ((qB a0 v3).bind fun y9 =>
   (a1 y9).bind fun y11 =>
   if y11 then
    some (.inl v3)
   else
    some (.inr ()) : Option (Int ⊕ Unit)).bind fun x => match x with
   | .inl r => some (.inr (.inl r))
   | .inr _ =>
    some (.inl (IntKind.i64.wrap (v3 + (1 : Int))))
  else
   some (.inr (.inr ()))
noncomputable def B_slices_IndexFunc_Task (a0 : (List Task)) (a1 : (Task → Option Bool)) : Option Int :=
 (qz (QF a0 a1) (0 : Int) : Option (Int ⊕ Unit)).bind fun x => match x with
 | .inl r => some r
 | .inr _ =>
  some (-1 : Int)
theorem W_slices_IndexFunc_Task : Sat_slices_IndexFunc_Task (B_slices_IndexFunc_Task) := by
 intro a0 a1 r h σ K fid1 caps1 hg1 hK;refine qZ Try.func101 rfl rfl (by kernel_rfl) ?_;unfold B_slices_IndexFunc_Task at h;have hP := Pre.refl σ;have E0 : qD [(.sl (List.map Task.cl a0)), (.fn fid1 [] caps1)] 0 = (.sl (List.map Task.cl a0)) := rfl;have E1 : qD [(.sl (List.map Task.cl a0)), (.fn fid1 [] caps1)] 1 = (.fn fid1 [] caps1) := rfl;have TT := cj7 Expr.rlen T_3 T_43 T_46 T_59 T_61 Task.cle;refine qe (w_x Expr.rlen ?_);refine qf (qm (qe (w_x (cj2 E0 TT) ?_)));refine qf ?_;obtain ⟨x1, h2, h⟩ := qb h;refine qk (fun e s => .inr () = x1 ∧ Pre σ s) ?_ ?_
 ·refine qo (qH h2 (fun v e s => ∃ v3, v3 = v ∧ eS e 0 Task.cl a0 ∧ e 1 = (.fn fid1 [] caps1) ∧ eL e 7 a0 ∧ eI e 8 v3 ∧ Pre σ s) ⟨_, WkE.refl _, _, rfl, E0, E1, (xv TT), (xv TT), hP⟩ ?_)
  rintro v x4 e s hf5 ⟨v3, rfl, E0, E1, E7, E8, hP⟩
  unfold QF at hf5;(try dsimp only at hf5);refine qe (w_x (cj3 E7 E8 TT) ?_);refine qf (qe ?_);rcases qj hf5 with ⟨hb6, hf5⟩ | ⟨hb6, hf5⟩
  ·refine xt hb6 (qn (qf ?_));obtain ⟨x7, h8, hf5⟩ := qb hf5;refine qk (fun e s => .inr () = x7 ∧ eS e 0 Task.cl a0 ∧ e 1 = (.fn fid1 [] caps1) ∧ eL e 7 a0 ∧ eI e 8 v3 ∧ Pre σ s) ?_ ?_
   ·refine qo (qe (w_x (cj2 E8 TT) ?_));refine qf ?_;obtain ⟨y9, h10, h8⟩ := qb h8;obtain ⟨y11, h12, h8⟩ := qb h8;refine qk (fun e s => eS e 0 Task.cl a0 ∧ e 1 = (.fn fid1 [] caps1) ∧ eI e 5 v3 ∧ eL e 7 a0 ∧ eI e 8 v3 ∧ eB e 16 y11 ∧ Pre σ s) ?_ ?_
    ·have R13 := qA (f := Task.cl) (qh h10).2;have q1 := cj5 E0 E1 R13 (qh h10).1 TT;refine w_x q1 ?_;refine hg1 _  _ h12  _ _ hP ?_;refine w_y q1 ?_;exact qg ⟨E0, E1, (xv q1), E7, E8, (xv q1), hP⟩
    rintro e s ⟨E0, E1, E5, E7, E8, E16, hP⟩
    rcases qj h8 with ⟨hb14, h8⟩ | ⟨hb14, h8⟩
    ·refine xt (cj2 E16 hb14) (qe (w_x (cj2 E5 TT) ?_));refine qf (qp (qx ?_));obtain rfl := qa h8;refine qC ?_;(try dsimp only at hf5);obtain rfl := qa hf5;refine zk rfl fun hr15 => ?_;obtain rfl := hr15;refine qx (qC ?_);(try dsimp only at h);obtain rfl := qa h;exact qr (fun _ => rfl) (xr (rs := #[.tmp 4]) TT) hP (.refl _) (.v _) hK
    ·refine xf (cj2 E16 hb14) (qn (qP ?_));obtain rfl := qa h8;exact qg ⟨rfl, E0, E1, E7, E8, hP⟩
   rintro e s ⟨rfl, E0, E1, E7, E8, hP⟩
   (try dsimp only at hf5);refine w_x (cj2 E8 TT) ?_;obtain rfl := qa hf5;exact qT rfl ⟨_, rfl, E0, E1, E7, (xv (cj2 E8 TT)), hP⟩
  ·refine xf hb6 (qE (qM ?_));obtain rfl := qa hf5;refine qS rfl fun hr16 => ?_;obtain rfl := hr16;exact qK (qg ⟨rfl, hP⟩)
 rintro e s ⟨rfl, hP⟩
 (try dsimp only at h);refine qe (w_x Expr.rlen ?_);refine qf (qp ?_);obtain rfl := qa h;exact qr (fun _ => rfl) (xr (rs := #[.tmp 4]) TT) hP (.refl _) (.v _) hK
noncomputable def QE (a0 : (List Tell)) (a1 : (Tell → Option Bool)) : Int → Option (Int ⊕ (Int ⊕ Unit))
 | v3 =>
  if (decide (v3 < ((List.length a0 : Nat) : Int))) then
   ((qB a0 v3).bind fun y9 =>
   (a1 y9).bind fun y11 =>
   if y11 then
    some (.inl v3)
   else
    some (.inr ()) : Option (Int ⊕ Unit)).bind fun x => match x with
   | .inl r => some (.inr (.inl r))
   | .inr _ =>
    some (.inl (IntKind.i64.wrap (v3 + (1 : Int))))
  else
   some (.inr (.inr ()))
noncomputable def B_slices_IndexFunc_Tell (a0 : (List Tell)) (a1 : (Tell → Option Bool)) : Option Int :=
 (qz (QE a0 a1) (0 : Int) : Option (Int ⊕ Unit)).bind fun x => match x with
 | .inl r => some r
 | .inr _ =>
  some (-1 : Int)
theorem W_slices_IndexFunc_Tell : Sat_slices_IndexFunc_Tell (B_slices_IndexFunc_Tell) := by
 intro a0 a1 r h σ K fid1 caps1 hg1 hK;refine qZ Try.func104 rfl rfl (by kernel_rfl) ?_;unfold B_slices_IndexFunc_Tell at h;have hP := Pre.refl σ;have E0 : qD [(.sl (List.map Tell.cl a0)), (.fn fid1 [] caps1)] 0 = (.sl (List.map Tell.cl a0)) := rfl;have E1 : qD [(.sl (List.map Tell.cl a0)), (.fn fid1 [] caps1)] 1 = (.fn fid1 [] caps1) := rfl;have TT := cj8 Expr.rlen T_2 T_3 T_43 T_47 T_68 T_73 Tell.cle;refine qe (w_x Expr.rlen ?_);refine qf (qm (qe (w_x (cj2 E0 TT) ?_)));refine qf ?_;obtain ⟨x1, h2, h⟩ := qb h;refine qk (fun e s => .inr () = x1 ∧ Pre σ s) ?_ ?_
 ·refine qo (qH h2 (fun v e s => ∃ v3, v3 = v ∧ eS e 0 Tell.cl a0 ∧ e 1 = (.fn fid1 [] caps1) ∧ eL e 7 a0 ∧ eI e 8 v3 ∧ Pre σ s) ⟨_, WkE.refl _, _, rfl, E0, E1, (xv TT), (xv TT), hP⟩ ?_)
  rintro v x4 e s hf5 ⟨v3, rfl, E0, E1, E7, E8, hP⟩
  unfold QE at hf5;(try dsimp only at hf5);refine qe (w_x (cj3 E7 E8 TT) ?_);refine qf (qe ?_);rcases qj hf5 with ⟨hb6, hf5⟩ | ⟨hb6, hf5⟩
  ·refine xt hb6 (qn (qf ?_));obtain ⟨x7, h8, hf5⟩ := qb hf5;refine qk (fun e s => .inr () = x7 ∧ eS e 0 Tell.cl a0 ∧ e 1 = (.fn fid1 [] caps1) ∧ eL e 7 a0 ∧ eI e 8 v3 ∧ Pre σ s) ?_ ?_
   ·refine qo (qe (w_x (cj2 E8 TT) ?_));refine qf ?_;obtain ⟨y9, h10, h8⟩ := qb h8;obtain ⟨y11, h12, h8⟩ := qb h8;refine qk (fun e s => eS e 0 Tell.cl a0 ∧ e 1 = (.fn fid1 [] caps1) ∧ eI e 5 v3 ∧ eL e 7 a0 ∧ eI e 8 v3 ∧ eB e 16 y11 ∧ Pre σ s) ?_ ?_
    ·have R13 := qA (f := Tell.cl) (qh h10).2;have q1 := cj5 E0 E1 R13 (qh h10).1 TT;refine w_x q1 ?_;refine hg1 _  _ h12  _ _ hP ?_;refine w_y q1 ?_;exact qg ⟨E0, E1, (xv q1), E7, E8, (xv q1), hP⟩
    rintro e s ⟨E0, E1, E5, E7, E8, E16, hP⟩
    rcases qj h8 with ⟨hb14, h8⟩ | ⟨hb14, h8⟩
    ·refine xt (cj2 E16 hb14) (qe (w_x (cj2 E5 TT) ?_));refine qf (qp (qx ?_));obtain rfl := qa h8;refine qC ?_;(try dsimp only at hf5);obtain rfl := qa hf5;refine zk rfl fun hr15 => ?_;obtain rfl := hr15;refine qx (qC ?_);(try dsimp only at h);obtain rfl := qa h;exact qr (fun _ => rfl) (xr (rs := #[.tmp 4]) TT) hP (.refl _) (.v _) hK
    ·refine xf (cj2 E16 hb14) (qn (qP ?_));obtain rfl := qa h8;exact qg ⟨rfl, E0, E1, E7, E8, hP⟩
   rintro e s ⟨rfl, E0, E1, E7, E8, hP⟩
   (try dsimp only at hf5);refine w_x (cj2 E8 TT) ?_;obtain rfl := qa hf5;exact qT rfl ⟨_, rfl, E0, E1, E7, (xv (cj2 E8 TT)), hP⟩
  ·refine xf hb6 (qE (qM ?_));obtain rfl := qa hf5;refine qS rfl fun hr16 => ?_;obtain rfl := hr16;exact qK (qg ⟨rfl, hP⟩)
 rintro e s ⟨rfl, hP⟩
 (try dsimp only at h);refine qe (w_x Expr.rlen ?_);refine qf (qp ?_);obtain rfl := qa h;exact qr (fun _ => rfl) (xr (rs := #[.tmp 4]) TT) hP (.refl _) (.v _) hK
end Go.Proofs.Ytohmmfimedgccaa.E
end
section
namespace Go.Proofs.Ytohmmfimedgccaa.E
set_option linter.unusedVariables false
set_option linter.unusedSimpArgs false
set_option maxRecDepth 10000
noncomputable def m_rAll := B_ref02_All qqi QV
theorem s_rAll : Sat_ref02_All m_rAll := W_ref02_All _ _ s_rapply QQf
theorem rr_of {c : Clock} (h : zj c = some true) : QV c = some true := by
 obtain ⟨b, h1, h2⟩ := rr_eq c;rw [h] at h1;rw [h2, ← h1]
theorem v_rAll {s c : Clock} {l : List Op} (hs : zj s = some true) (h : OpsC s l c) (hf : ∀ o ∈ l, opFit o) (hl : l.length ≤ 10000) : m_rAll s l = some (c, 0) := by
 have hbig : (1000000 : Nat) ≤ maxLen := by unfold maxLen; decide
 obtain ⟨r, h1, h2⟩ := qL (f := Jl l qqi) (fun i v => ∃ ci, v = ((i : Int), ci, (⟨0, 0⟩ : Clock)) ∧ OpsC ci (l.drop i) c) l.length (fun r : (Clock × Int) ⊕ (Clock × Clock) => r = .inr (c, ⟨0, 0⟩)) (fun i v hi hv => by
  obtain ⟨ci, rfl, ho⟩ := hv;rw [List.drop_eq_getElem_cons hi] at ho;unfold Jl;cases ho with
  | cons ha hr =>
   rename_i c';obtain ⟨d, e, d', e', g1, g2, g3, g4⟩ := apply_eq ci (hf _ (List.getElem_mem hi));rw [ha] at g1;obtain ⟨rfl, rfl⟩ := Prod.mk.inj (Option.some.inj g1);have he := g3.1 rfl;have hd := g4 rfl;subst he hd;simp only [dlt hi, if_true, qy hi, Option.bind_some, g2, decide_true, Bool.not_true, Bool.false_eq_true, if_false];exact .inl ⟨_, rfl, _, by rw [zc hi (by omega)], hr⟩) (fun v hv => by
  obtain ⟨ci, rfl, ho⟩ := hv;rw [List.drop_length] at ho;cases ho;unfold Jl;simp only [dge, Bool.false_eq_true, if_false];exact ⟨_, rfl, rfl⟩) (v0 := ((0 : Int), s, (⟨0, 0⟩ : Clock))) ⟨s, rfl, h⟩
 subst h2;unfold m_rAll B_ref02_All;rw [rr_of hs];simp only [Option.bind_some, Bool.not_true, Bool.false_eq_true, if_false];rw [h1];rfl
noncomputable def qqt := B_ref08_source
theorem s_rsource : Sat_ref08_source qqt := W_ref08_source
noncomputable def Ye := B_ref08_fits qqt m_rAll
theorem s_rfits : Sat_ref08_fits Ye := W_ref08_fits _ _ s_rsource s_rAll
theorem clkI_cr {p : Program} (hf : p.fit) {x : Input} (hx : x ∈ p.inputs) : zj (QW x) = some true := by
 have := hf.input x hx;unfold zj B_clock_Right QW;simp only [Option.some.injEq, Bool.and_eq_true, decide_eq_true_eq];omega
theorem v_rfits {p : Program} {ρ : ByteArray → Clock} (w : FW p ρ) {F : Flat} (hF : FlatR p ρ F) {to : ByteArray} {e : Expr} (h : (to, e) ∈ spP p.flows) {c : Clock} (hc : RefC ρ e c) (hb : ¬ Big p to e) : Ye F (argOf p to e) c = some true := by
 obtain ⟨n, hn, har⟩ := w.argOf h;obtain ⟨s, hsrc, hops⟩ := har.clock w c hc;have hfit := har.fit w h;have hlen : (argOf p to e).ops.length ≤ 20 := by
  have := zzV w har;rw [this] at hb;omega
 have hcs := Qp w.fit;have hall := w.fit.all;generalize argOf p to e = a at *;have hil : F.inputs.length = p.inputs.length := by rw [hF.inputs, List.length_map]
 have key : qqt F a.src = some (s, true) ∧ zj s = some true := by
  unfold qqt B_ref08_source;rcases hsrc with ⟨i, x, hs, hi, rfl⟩ | ⟨k, to', y, hs, hk, hr⟩
  ·obtain ⟨hl, hxe⟩ := List.getElem?_eq_some_iff.1 hi;rw [hs, if_pos (by simp only [Bool.and_eq_true, decide_eq_true_eq]; omega)];have hg : qB F.inputs (i : Int) = some (QW x) := by
    rw [qy (by omega)];simp [hF.inputs, hxe]
   rw [hg];exact ⟨rfl, clkI_cr w.fit (List.mem_of_getElem? hi)⟩
  ·have hl := (List.getElem?_eq_some_iff.1 hk).1;obtain ⟨c', hT, hr'⟩ := hF.task k _ hk;have he : c' = s := hr'.of.det hr.of;subst he;have htl := hF.tlen;have hl2 : k < F.tasks.length := by omega
   obtain ⟨_, hTe⟩ := List.getElem?_eq_some_iff.1 hT;rw [hs, if_neg (by simp only [Bool.and_eq_true, decide_eq_true_eq]; omega), zn (n := (F.inputs.length : Int) + (F.tasks.length : Int)) (by omega) (by omega), if_pos (by simp only [Bool.and_eq_true, decide_eq_true_eq]; omega), zn (by omega) (by omega), show ((p.inputs.length + k : Nat) : Int) - (F.inputs.length : Int) = (k : Int) by omega, qy hl2, hTe];exact ⟨rfl, w.cr (JL.1 (List.mem_of_getElem? hk)).1 hr⟩
 unfold Ye B_ref08_fits;rw [key.1];simp only [Option.bind_some, Bool.not_true, Bool.false_or];rw [if_neg (by rw [decide_eq_true_eq]; omega), v_rAll key.2 hops hfit (by omega)];simp
noncomputable def qqu := B_ref08_Right QV Ye
theorem s_rrightF : Sat_ref08_Right qqu := W_ref08_Right _ _ QQf s_rfits
theorem FW.node {p : Program} {ρ : ByteArray → Clock} (w : FW p ρ) {to : ByteArray} {e : Expr} (h : (to, e) ∈ spP p.flows) (hk : e.kind = 2) : ∃ (i : Nat) (n : Node), p.nodes[i]? = some n ∧ ZC p e.name = (i : Int) ∧ n.params.length = e.args.length := by
 have hall := w.fit.all;obtain ⟨i, n, h1, h2, h3, h4⟩ := (w.pok h).2 hk;have hx : Ix (zf p) e.name (i : Int) := .inl ⟨i, rfl, by rw [← h2]; simp [zf, h1], h3⟩;exact ⟨i, n, h1, (v_rnode (by omega) e.name).2.uniq hx, h4⟩
theorem v_rrightF {p : Program} {ρ : ByteArray → Clock} (w : FW p ρ) {F : Flat} (hF : FlatR p ρ F) (h30 : (cls (spP p.flows)).length ≤ 30) (hL : ∀ f ∈ p.flows, ¬ LongS p f.name f.e true) : qqu F = some true := by
 have hbig : (1000000 : Nat) ≤ maxLen := by unfold maxLen; decide
 have hall := w.fit.all;have hcs := Qp w.fit;have hil : F.inputs.length = p.inputs.length := by rw [hF.inputs, List.length_map]
 have htl := hF.tlen;have hyl := hF.ylen;have hbf : ∀ f ∈ p.flows, ¬ Big p f.name f.e := fun f hf hb => hL f hf (.inl ⟨rfl, hb⟩);have hbc : ∀ (k : Nat) (x : ByteArray × Expr), (cls (spP p.flows))[k]? = some x → ∀ (j : Nat) (y : Expr), x.2.args[j]? = some y → ¬ Big p (zd x.1 j) y := fun k x hk j y hy hb => by
  obtain ⟨f, hf, h⟩ := QQb.1 ⟨x, List.mem_of_getElem? hk, j, y, hy, hb⟩;exact hL f hf (.inr h)
 obtain ⟨r0, a0, b0⟩ := qL (f := Zb F QV) (fun i v => v = (i : Int)) F.inputs.length (fun r : Bool ⊕ Unit => r = .inr ()) (fun i v hi hv => by
  subst hv;unfold Zb;have hi' : i < p.inputs.length := by omega
  have he : F.inputs[i] = QW p.inputs[i] := by simp [hF.inputs]
  simp only [dlt hi, if_true, qy hi, Option.bind_some, he, rr_of (clkI_cr w.fit (List.getElem_mem hi')), Bool.not_true, Bool.false_eq_true, if_false];exact .inl ⟨_, rfl, zc hi (by omega)⟩) (fun v hv => by
  subst hv;unfold Zb;simp only [dge, Bool.false_eq_true, if_false];exact ⟨_, rfl, rfl⟩) (v0 := (0 : Int)) rfl
 subst b0;obtain ⟨r1, a1, b1⟩ := qL (f := Za F) (fun i v => v = (i : Int)) F.nodes.length (fun r : Bool ⊕ Unit => r = .inr ()) (fun i v hi hv => by
  subst hv;unfold Za;have hb := (w.fit.node F.nodes[i] (by rw [← hF.nodes]; exact List.getElem_mem hi)).budget;have e1 : decide (F.nodes[i].budget < 1) = false := decide_eq_false (by omega);have e2 : decide (1000 < F.nodes[i].budget) = false := decide_eq_false (by omega);simp only [dlt hi, if_true, qy hi, Option.bind_some, e1, e2, Bool.or_self, Bool.false_eq_true, if_false];exact .inl ⟨_, rfl, zc hi (by have := hF.nodes; rw [this] at hi ⊢; omega)⟩) (fun v hv => by
  subst hv;unfold Za;simp only [dge, Bool.false_eq_true, if_false];exact ⟨_, rfl, rfl⟩) (v0 := (0 : Int)) rfl
 subst b1;obtain ⟨r2, a2, b2⟩ := qL (f := QZ F Ye) (fun i v => v = (i : Int)) F.tasks.length (fun r : Bool ⊕ Unit => r = .inr ()) (fun i v hi hv => by
  subst hv;unfold QZ;have hic : i < (cls (spP p.flows)).length := by omega
  have hx := List.getElem?_eq_getElem hic;generalize (cls (spP p.flows))[i] = x at *;obtain ⟨c, hT, hr⟩ := hF.task i x hx;obtain ⟨_, hTe⟩ := List.getElem?_eq_some_iff.1 hT;obtain ⟨hp, hk⟩ := w.cat hx;obtain ⟨q, n, hn1, hn2, hn3⟩ := w.node hp hk;obtain ⟨hql, hqe⟩ := List.getElem?_eq_some_iff.1 hn1;have hargs := JZ p x;have h0 : 0 < x.2.args.length := by
   rcases w.kinds hp with ⟨k1, _⟩ | ⟨_, h0, _⟩
   ·omega
   ·exact h0
  obtain ⟨r3, a3, b3⟩ := qL (f := QY (qX p x c) F Ye) (fun j v => v = (j : Int)) (zF p x).length (fun r : Bool ⊕ Unit => r = .inr ()) (fun j v hj hv => by
   subst hv;unfold QY;have hj' : j < x.2.args.length := by omega
   have hga : qB (qX p x c).args (j : Int) = some (argOf p (zd x.1 j) x.2.args[j]) := by
    show qB (zF p x) (j : Int) = _;rw [qy hj, ← List.getElem?_eq_getElem hj];exact qqA p x (List.getElem?_eq_getElem hj')
   have hcj : RefC ρ x.2.args[j] c := by
    cases hr with
    | nm k1 => omega
    | call _ _ hall => exact hall _ (List.getElem_mem hj')
    | op _ k2 _ _ _ => exact absurd hk k2
   have hv := v_rfits w hF (ZQ hp hj') hcj (hbc i x hx j _ (List.getElem?_eq_getElem hj'));rw [if_pos (show decide ((j : Int) < (((qX p x c).args.length : Nat) : Int)) = true from dlt hj), hga];simp only [Option.bind_some];rw [show (qX p x c).clock = c from rfl, hv];simp only [Option.bind_some, Bool.not_true, Bool.false_eq_true, if_false];exact .inl ⟨_, rfl, zc hj (by have := w.psize hp; have := zE x.2; have := JO x.2.args; omega)⟩) (fun v hv => by
   subst hv;unfold QY;rw [if_neg (show ¬ (decide (((zF p x).length : Int) < (((qX p x c).args.length : Nat) : Int)) = true) from dge' _)];exact ⟨_, rfl, rfl⟩) (v0 := (0 : Int)) rfl
  subst b3;have e1 : decide ((qX p x c).node < 0) = false := decide_eq_false (by show ¬ ZC p x.2.name < 0; omega);have e2 : decide (((F.nodes.length : Nat) : Int) ≤ (qX p x c).node) = false := decide_eq_false (by show ¬ _ ≤ ZC p x.2.name; rw [hF.nodes]; omega);have e3 : decide ((((qX p x c).args.length : Nat) : Int) = 0) = false := decide_eq_false (by show ¬ (((zF p x).length : Nat) : Int) = 0; omega);have e4 : qB F.nodes (qX p x c).node = some n := by
   show qB F.nodes (ZC p x.2.name) = _;rw [hn2, hF.nodes, qy hql, hqe]
  have e5 : decide ((((qX p x c).args.length : Nat) : Int) = ((n.params.length : Nat) : Int)) = true := decide_eq_true (by show (((zF p x).length : Nat) : Int) = _; omega);simp only [dlt hi, if_true, qy hi, Option.bind_some, hTe, e1, e2, e3, Bool.or_self, Bool.false_eq_true, if_false, e4, e5, Bool.not_true];rw [a3];exact .inl ⟨_, rfl, zc hi (by omega)⟩) (fun v hv => by
  subst hv;unfold QZ;simp only [dge, Bool.false_eq_true, if_false];exact ⟨_, rfl, rfl⟩) (v0 := (0 : Int)) rfl
 subst b2;obtain ⟨r4, a4, b4⟩ := qL (f := QX F Ye) (fun i v => v = (i : Int)) F.tells.length (fun r : Bool ⊕ Unit => r = .inr ()) (fun i v hi hv => by
  subst hv;unfold QX;have hi' : i < p.outputs.length := by omega
  have hx := List.getElem?_eq_getElem hi';obtain ⟨j, f, hj, hfn, hY⟩ := hF.tell i _ hx;obtain ⟨_, hYe⟩ := List.getElem?_eq_some_iff.1 hY;have hfm := List.mem_of_getElem? hj;have hd := w.fit.output _ (List.getElem_mem hi');have e1 : decide (p.outputs[i].deadline < 1) = false := decide_eq_false (by omega);have e2 : decide (1000 < p.outputs[i].deadline) = false := decide_eq_false (by omega);have hv := v_rfits w hF (QO hfm) (w.good.2 f hfm) (hbf f hfm);simp only [dlt hi, if_true, qy hi, Option.bind_some, hYe, e1, e2, Bool.or_self, Bool.false_eq_true, if_false, hv, Bool.not_true];exact .inl ⟨_, rfl, zc hi (by omega)⟩) (fun v hv => by
  subst hv;unfold QX;simp only [dge, Bool.false_eq_true, if_false];exact ⟨_, rfl, rfl⟩) (v0 := (0 : Int)) rfl
 subst b4;unfold qqu B_ref08_Right;rw [if_neg (by rw [decide_eq_true_eq]; omega), a0];simp only [Option.bind_some];rw [a1];simp only [Option.bind_some];rw [a2];simp only [Option.bind_some];rw [a4];rfl
noncomputable def m_cfC := B_slices_ContainsFunc_Clock B_slices_IndexFunc_Clock
noncomputable def m_cfN := B_slices_ContainsFunc_Node m_ixN
noncomputable def m_cfT := B_slices_ContainsFunc_Task B_slices_IndexFunc_Task
noncomputable def m_cfY := B_slices_ContainsFunc_Tell B_slices_IndexFunc_Tell
noncomputable def qqv := B_flat_Right m_cfC (fun _ => none) m_cfN (fun _ => none) m_cfT (fun _ _ => none) m_cfY (fun _ _ => none)
theorem s_fright0 : Sat_flat_Right qqv := W_flat_Right _ _ _ _ _ _ _ _ (W_slices_ContainsFunc_Clock _ W_slices_IndexFunc_Clock) (fun _ _ h => by cases h) (W_slices_ContainsFunc_Node _ s_ixN) (fun _ _ h => by cases h) (W_slices_ContainsFunc_Task _ W_slices_IndexFunc_Task) (fun _ _ _ h => by cases h) (W_slices_ContainsFunc_Tell _ W_slices_IndexFunc_Tell) (fun _ _ _ h => by cases h)
noncomputable def zzf := B_law08_awake qqv B_flat_Source
theorem s_awakeF : Sat_law08_awake zzf := W_law08_awake _ _ s_fright0 W_flat_Source
theorem v_awakeF : zzf = some true := by
 have hz : ∀ {β : Type} {f : Int → Option (Int ⊕ (β ⊕ Unit))}, f 0 = some (.inr (.inr ())) → qz f (0 : Int) = some (.inr ()) := fun h => YG h;have c1 : ∀ g, m_cfC [] g = some false := fun g => by
  unfold m_cfC B_slices_ContainsFunc_Clock B_slices_IndexFunc_Clock;rw [hz (by unfold Qx; rfl)];rfl
 have c2 : ∀ g, m_cfN [] g = some false := fun g => by
  unfold m_cfN B_slices_ContainsFunc_Node m_ixN B_slices_IndexFunc_Node;rw [hz (by unfold zy; rfl)];rfl
 have c3 : ∀ g, m_cfT [] g = some false := fun g => by
  unfold m_cfT B_slices_ContainsFunc_Task B_slices_IndexFunc_Task;rw [hz (by unfold QF; rfl)];rfl
 have c4 : ∀ g, m_cfY [] g = some false := fun g => by
  unfold m_cfY B_slices_ContainsFunc_Tell B_slices_IndexFunc_Tell;rw [hz (by unfold QE; rfl)];rfl
 have h1 : qqv ⟨[], [], [], []⟩ = some true := by
  unfold qqv B_flat_Right;simp only [c1, c2, c3, c4];rfl
 have h2 : B_flat_Source ⟨[⟨3, 0⟩], [], [], []⟩ 0 = some (⟨3, 0⟩, true) := by
  unfold B_flat_Source;rw [zn (by simp) (by simp)];rfl
 unfold zzf B_law08_awake;rw [h2];simp only [Option.bind_some, decide_true, Bool.and_self, if_true];rw [h1];rfl
noncomputable def m_law := B_law08_FlatMakes m_read zze qqj zzf m_make m_rall zzR qqu Jm ZY qqL QC Zr qqh
theorem s_law : Sat_law08_FlatMakes m_law := W_law08_FlatMakes _ _ _ _ _ _ _ _ _ _ _ _ _ _ s_read s_rnames s_clocks s_awakeF s_make s_rall s_rlong s_rrightF zzv s_rnode s_largs zzN s_rarg s_same
theorem v_law (p : Program) (hok : p.ok) : m_law p = some true := by
 unfold m_law B_law08_FlatMakes;obtain ⟨r, h1, h2⟩ := t_read p hok;rw [v_awakeF];simp only [Option.bind_some, Bool.not_true, Bool.false_eq_true, if_false, h1, Bool.false_or];cases r with
 | false => rfl
 | true =>
  have hf := h2 rfl;have hall := hf.all;have hbig : (1000000 : Nat) ≤ maxLen := by unfold maxLen; decide
  obtain ⟨b, h5, h6⟩ := t_rnames hf;simp only [Bool.not_true, Bool.false_eq_true, if_false, h5, Option.bind_some];cases b with
  | false => rfl
  | true =>
   have hS := h6.1 rfl;simp only [Bool.not_true, Bool.false_eq_true, if_false, Bool.or_self];obtain ⟨cs, a, e, g2, c1, c2, c3, c4, c5⟩ := t_clocks hf hS;rw [g2];simp only [Option.bind_some];by_cases he : e = 0
   ·subst he;obtain ⟨ρ, hg, rfl⟩ := c3 rfl;have w : FW p ρ := ⟨hf, hS, c5 rfl, hg⟩;have hcs := Qp hf;have hpl := Yc p.flows 0;obtain ⟨F, a', e', m1, m2⟩ := t_make w;obtain ⟨lb, l1, l2⟩ := t_rlong w;simp only [decide_true, Bool.not_true, Bool.false_eq_true, if_false];rw [m1];simp only [Option.bind_some];rw [v_rall hf];simp only [Option.bind_some];rcases m2 with ⟨rfl, m3, m4⟩ | ⟨rfl, m3, m4, m5⟩
    ·have e0 : decide (((F.tasks.length : Nat) : Int) = (0 : Int)) = true := by rw [m3]; rfl
     simp only [Int.reduceEq, decide_false, Bool.not_false, if_true, e0, decide_true, Bool.true_and];by_cases hc : 30 < (cls (spP p.flows)).length
     ·rw [if_pos (by rw [decide_eq_true_eq]; omega)];simp only [Option.bind_some];rw [decide_eq_true (by omega : (30 : Int) < (((plP 0 p.flows).length : Nat) : Int))];rfl
     ·rw [if_neg (by rw [decide_eq_true_eq]; omega), l1];have := l2.2 (m4.resolve_left hc);subst this;simp
    ·have hlb : lb = false := by
      cases lb with
      | false => rfl
      | true =>
       obtain ⟨f, hff, h⟩ := l2.1 rfl;exact absurd h (m4 f hff)
     subst hlb;have e1 : decide ((30 : Int) < (((plP 0 p.flows).length : Nat) : Int)) = false := decide_eq_false (by omega);have e2 : decide (((F.tasks.length : Nat) : Int) = (((plP 0 p.flows).length : Nat) : Int)) = true := decide_eq_true (by have := m5.tlen; omega);have e3 : decide (((F.inputs.length : Nat) : Int) = ((p.inputs.length : Nat) : Int)) = true := decide_eq_true (by rw [m5.inputs, List.length_map]);have e4 : decide (((F.tells.length : Nat) : Int) = ((p.outputs.length : Nat) : Int)) = true := decide_eq_true (by have := m5.ylen; omega);simp only [decide_true, Bool.not_true, Bool.false_eq_true, if_false, e1, l1, Option.bind_some, Bool.or_self, v_rrightF w m5 m3 m4, e2, e3, e4];obtain ⟨r0, a0, b0⟩ := qL (f := Qn (F, a', 0) (plP 0 p.flows) p qqL ZY Jm) (fun i v => v = (i : Int)) (plP 0 p.flows).length (fun r : Bool ⊕ Unit => r = .inr ()) (fun i v hi hv => by
      subst hv;unfold Qn;have hic : i < (cls (spP p.flows)).length := by omega
      have hx := List.getElem?_eq_getElem hic;generalize (cls (spP p.flows))[i] = x at *;obtain ⟨j, k, f, q1, q2, q3, q4⟩ := w.pl hx;obtain ⟨hjl, hje⟩ := List.getElem?_eq_some_iff.1 q2;have hsz := (hf.flow f (List.mem_of_getElem? q2)).size;obtain ⟨c, hT, hr⟩ := m5.task i x hx;have htl : i < F.tasks.length := by rw [m5.tlen]; exact hic
      have hgp : qB (plP 0 p.flows) (i : Int) = some ⟨(j : Int), (k : Int)⟩ := by rw [qy hi, ← List.getElem?_eq_getElem hi]; exact q1
      have hgf : qB p.flows (j : Int) = some f := by rw [qy hjl, hje]
      have hgt : qB F.tasks (i : Int) = some (qX p x c) := by rw [qy htl, ← List.getElem?_eq_getElem htl]; exact hT
      have hn := (v_rnode (p := p) (by omega) x.2.name).1;have e5 : decide ((qX p x c).node = ZC p x.2.name) = true := decide_eq_true rfl;simp only [dlt hi, if_true, hgp, Option.bind_some, hgf, v_rget f.e f.name k x (by omega) q3, hgt, hn, e5, Bool.not_true, Bool.false_eq_true, if_false, v_largs w q2 q3 c, Bool.or_self];exact .inl ⟨_, rfl, zc hi (by omega)⟩) (fun v hv => by
      subst hv;unfold Qn;simp only [dge, Bool.false_eq_true, if_false];exact ⟨_, rfl, rfl⟩) (v0 := (0 : Int)) rfl
     subst b0;rw [a0];simp only [Option.bind_some];obtain ⟨r1, a1, b1⟩ := qL (f := Qm (p.flows.map fun f => ρ f.name, a, 0) (F, a', 0) (plP 0 p.flows) p QC Zr qqh) (fun i v => v = (i : Int)) p.outputs.length (fun r : Bool ⊕ Unit => r = .inr ()) (fun i v hi hv => by
      subst hv;unfold Qm;have hx := List.getElem?_eq_getElem hi;obtain ⟨j, f, hj, hfn, hY⟩ := m5.tell i _ hx;obtain ⟨hjl, hje⟩ := List.getElem?_eq_some_iff.1 hj;have hyl : i < F.tells.length := by rw [m5.ylen]; exact hi
      have hgy : qB F.tells (i : Int) = some ⟨ρ f.name, argOf p f.name f.e, p.outputs[i].deadline⟩ := by rw [qy hyl, ← List.getElem?_eq_getElem hyl]; exact hY
      have hrf := QQp w hj;rw [hfn] at hrf;obtain ⟨n, hn, har⟩ := w.argOf (QO (List.mem_of_getElem? hj));have hlen := har.len;have hv := v_rarg w har j 0 5000 f (by omega) (Nat.le_refl _) hj (by rw [zR]; rfl);have hgc : qB (p.flows.map fun f => ρ f.name) (j : Int) = some (ρ f.name) := by
       rw [qy (by simpa using hjl)];simp [hje]
      simp only [dlt hi, if_true, qy hi, Option.bind_some, hrf];rw [zn (n := ((p.inputs.length + j : Nat) : Int) - (p.inputs.length : Int)) (by omega) (by omega), show ((p.inputs.length + j : Nat) : Int) - (p.inputs.length : Int) = (j : Int) by omega, show (⟨(j : Int), (0 : Int)⟩ : Pl) = ⟨(j : Int), ((0 : Nat) : Int)⟩ from rfl, show (5000 : Int) = ((5000 : Nat) : Int) from rfl, hv];simp only [Option.bind_some, Bool.not_true, Bool.false_eq_true, if_false, hgy];rw [v_same (by omega)];simp only [Option.bind_some, Bool.not_true, Bool.false_eq_true, if_false, Bool.or_self, hgc, decide_true, Bool.and_self];exact .inl ⟨_, rfl, zc hi (by omega)⟩) (fun v hv => by
      subst hv;unfold Qm;simp only [dge, Bool.false_eq_true, if_false];exact ⟨_, rfl, rfl⟩) (v0 := (0 : Int)) rfl
     subst b1;rw [a1];rfl
   ·simp [he]
end Go.Proofs.Ytohmmfimedgccaa.E
end
section
namespace Go.Proofs.Ytohmmfimedgccaa.E
set_option linter.unusedVariables false
set_option linter.unusedSimpArgs false
set_option maxRecDepth 100000
section
variable {P : Go.Program} {t e : TypeId}
theorem RO.congr {α : Type} {f g : α → List PV} {G : α → Prop} {n : Nat} (h : RO P t f G n) (hf : ∀ x, g x = f x) : RO P t g G n := fun H enc w base spare held m hm cs r hr hw => let ⟨x, h1, h2⟩ := h H enc w base spare held m hm cs r hr hw; ⟨x, by rw [hf]; exact h1, h2⟩
theorem ro_zero {α : Type} (f : α → List PV) (G : α → Prop) : RO P t f G 0 := by
 intro H enc w base spare held m hm cs r hr;obtain rfl : m = 0 := by omega
 simp [DataW.trod] at hr
theorem ZG (ht : P.underlying t = some (.int .i64)) (n : Nat) : RO P t (fun x : Int => [.v (.int .i64 x)]) (fun x => I64 x) n := (ro_int ht n).imp fun x h => by
 simp only [Lit.wf, Bool.and_eq_true, decide_eq_true_eq, IntKind.min, IntKind.max, IntKind.signed, IntKind.bits, if_true, Bool.false_eq_true, if_false] at h;unfold I64;omega
theorem qqe (ht : P.underlying t = some .string) (n : Nat) : RO P t (fun x : ByteArray => [.v (.string x)]) (fun x => ByteArray.size x ≤ 140737488351232) n := ro_string ht n
theorem ro_sl {α : Type} {f : α → List PV} {G : α → Prop} {n sz B : Nat} (ht : P.underlying t = some (.slice e)) (hsz : P.cellsOf e = sz) (hb : P.bytesOf e = B) (hf : ∀ x, (f x).length = sz) (h : RO P e f G n) : RO P t (fun xs : List α => [.sl (xs.map f)]) (fun xs => xs.length * B ≤ 140737488351232 ∧ ∀ x ∈ xs, G x) (n + 1) := by
 subst hb;exact ro_slice ht hsz hf h
end
theorem ro_Expr : ∀ n, RO Try.prog 39 Expr.cl Expr.ok n
 | 0 => ro_zero _ _
 | n + 1 => (JH (f := (fun x : Int × ByteArray × Int × Int × (List Expr) × Int => (fun x : Int => [(PV.v (.int .i64 x))]) x.1 ++ (fun x : ByteArray × Int × Int × (List Expr) × Int => (fun x : ByteArray => [(PV.v (.string x))]) x.1 ++ (fun x : Int × Int × (List Expr) × Int => (fun x : Int => [(PV.v (.int .i64 x))]) x.1 ++ (fun x : Int × (List Expr) × Int => (fun x : Int => [(PV.v (.int .i64 x))]) x.1 ++ (fun x : (List Expr) × Int => (fun x : (List Expr) => [(PV.sl (Expr.rows x))]) x.1 ++ (fun x : Int => [(PV.v (.int .i64 x))]) x.2) x.2) x.2) x.2) x.2)) (G := (fun x : Int × ByteArray × Int × Int × (List Expr) × Int => (fun x : Int => I64 x) x.1 ∧ (fun x : ByteArray × Int × Int × (List Expr) × Int => (fun x : ByteArray => ByteArray.size x ≤ 140737488351232) x.1 ∧ (fun x : Int × Int × (List Expr) × Int => (fun x : Int => I64 x) x.1 ∧ (fun x : Int × (List Expr) × Int => (fun x : Int => I64 x) x.1 ∧ (fun x : (List Expr) × Int => (fun x : (List Expr) => List.length x * 72 ≤ 140737488351232 ∧ ∀ y ∈ x, Expr.ok y) x.1 ∧ (fun x : Int => I64 x) x.2) x.2) x.2) x.2) x.2)) (fun y : Int × ByteArray × Int × Int × (List Expr) × Int => (⟨y.1, y.2.1, y.2.2.1, y.2.2.2.1, y.2.2.2.2.1, y.2.2.2.2.2⟩ : Expr)) (fun _ => rfl) Try.underlying39 (zB (o' := 1) (f := (fun x : Int => [(PV.v (.int .i64 x))])) (f' := (fun x : ByteArray × Int × Int × (List Expr) × Int => (fun x : ByteArray => [(PV.v (.string x))]) x.1 ++ (fun x : Int × Int × (List Expr) × Int => (fun x : Int => [(PV.v (.int .i64 x))]) x.1 ++ (fun x : Int × (List Expr) × Int => (fun x : Int => [(PV.v (.int .i64 x))]) x.1 ++ (fun x : (List Expr) × Int => (fun x : (List Expr) => [(PV.sl (Expr.rows x))]) x.1 ++ (fun x : Int => [(PV.v (.int .i64 x))]) x.2) x.2) x.2) x.2)) (G := (fun x : Int => I64 x)) (G' := (fun x : ByteArray × Int × Int × (List Expr) × Int => (fun x : ByteArray => ByteArray.size x ≤ 140737488351232) x.1 ∧ (fun x : Int × Int × (List Expr) × Int => (fun x : Int => I64 x) x.1 ∧ (fun x : Int × (List Expr) × Int => (fun x : Int => I64 x) x.1 ∧ (fun x : (List Expr) × Int => (fun x : (List Expr) => List.length x * 72 ≤ 140737488351232 ∧ ∀ y ∈ x, Expr.ok y) x.1 ∧ (fun x : Int => I64 x) x.2) x.2) x.2) x.2)) rfl (by kernel_rfl) (ZG Try.underlying3 n) (zB (o' := 2) (f := (fun x : ByteArray => [(PV.v (.string x))])) (f' := (fun x : Int × Int × (List Expr) × Int => (fun x : Int => [(PV.v (.int .i64 x))]) x.1 ++ (fun x : Int × (List Expr) × Int => (fun x : Int => [(PV.v (.int .i64 x))]) x.1 ++ (fun x : (List Expr) × Int => (fun x : (List Expr) => [(PV.sl (Expr.rows x))]) x.1 ++ (fun x : Int => [(PV.v (.int .i64 x))]) x.2) x.2) x.2)) (G := (fun x : ByteArray => ByteArray.size x ≤ 140737488351232)) (G' := (fun x : Int × Int × (List Expr) × Int => (fun x : Int => I64 x) x.1 ∧ (fun x : Int × (List Expr) × Int => (fun x : Int => I64 x) x.1 ∧ (fun x : (List Expr) × Int => (fun x : (List Expr) => List.length x * 72 ≤ 140737488351232 ∧ ∀ y ∈ x, Expr.ok y) x.1 ∧ (fun x : Int => I64 x) x.2) x.2) x.2)) rfl (by kernel_rfl) (qqe Try.underlying9 n) (zB (o' := 3) (f := (fun x : Int => [(PV.v (.int .i64 x))])) (f' := (fun x : Int × (List Expr) × Int => (fun x : Int => [(PV.v (.int .i64 x))]) x.1 ++ (fun x : (List Expr) × Int => (fun x : (List Expr) => [(PV.sl (Expr.rows x))]) x.1 ++ (fun x : Int => [(PV.v (.int .i64 x))]) x.2) x.2)) (G := (fun x : Int => I64 x)) (G' := (fun x : Int × (List Expr) × Int => (fun x : Int => I64 x) x.1 ∧ (fun x : (List Expr) × Int => (fun x : (List Expr) => List.length x * 72 ≤ 140737488351232 ∧ ∀ y ∈ x, Expr.ok y) x.1 ∧ (fun x : Int => I64 x) x.2) x.2)) rfl (by kernel_rfl) (ZG Try.underlying2 n) (zB (o' := 4) (f := (fun x : Int => [(PV.v (.int .i64 x))])) (f' := (fun x : (List Expr) × Int => (fun x : (List Expr) => [(PV.sl (Expr.rows x))]) x.1 ++ (fun x : Int => [(PV.v (.int .i64 x))]) x.2)) (G := (fun x : Int => I64 x)) (G' := (fun x : (List Expr) × Int => (fun x : (List Expr) => List.length x * 72 ≤ 140737488351232 ∧ ∀ y ∈ x, Expr.ok y) x.1 ∧ (fun x : Int => I64 x) x.2)) rfl (by kernel_rfl) (ZG Try.underlying2 n) (zB (o' := 5) (f := (fun x : (List Expr) => [(PV.sl (Expr.rows x))])) (f' := (fun x : Int => [(PV.v (.int .i64 x))])) (G := (fun x : (List Expr) => List.length x * 72 ≤ 140737488351232 ∧ ∀ y ∈ x, Expr.ok y)) (G' := (fun x : Int => I64 x)) rfl (by kernel_rfl) (RO.congr (RO.down (ro_sl (B := 72) (sz := 6) Try.underlying37 (by kernel_rfl) (by kernel_rfl) (fun _ => rfl) (ro_Expr n)) (Nat.le_succ _)) (fun x => by rw [Expr.rows_eq])) (YR (f := (fun x : Int => [(PV.v (.int .i64 x))])) (G := (fun x : Int => I64 x)) rfl (by kernel_rfl) (ZG Try.underlying3 n)))))))).imp fun x ⟨y, hy, hg⟩ => by
  subst hy;exact .mk hg.1 hg.2.1 hg.2.2.1 hg.2.2.2.1 hg.2.2.2.2.1.1 hg.2.2.2.2.1.2 hg.2.2.2.2.2
theorem ro_Node (n : Nat) : RO Try.prog 99 Node.cl Node.ok n := RO.down ((JH (f := (fun x : ByteArray × (List ByteArray) × Int × Expr × Int => (fun x : ByteArray => [(PV.v (.string x))]) x.1 ++ (fun x : (List ByteArray) × Int × Expr × Int => (fun x : (List ByteArray) => [(PV.sl (List.map C_s x))]) x.1 ++ (fun x : Int × Expr × Int => (fun x : Int => [(PV.v (.int .i64 x))]) x.1 ++ (fun x : Expr × Int => Expr.cl x.1 ++ (fun x : Int => [(PV.v (.int .i64 x))]) x.2) x.2) x.2) x.2)) (G := (fun x : ByteArray × (List ByteArray) × Int × Expr × Int => (fun x : ByteArray => ByteArray.size x ≤ 140737488351232) x.1 ∧ (fun x : (List ByteArray) × Int × Expr × Int => (fun x : (List ByteArray) => List.length x * 16 ≤ 140737488351232 ∧ ∀ y ∈ x, ByteArray.size y ≤ 140737488351232) x.1 ∧ (fun x : Int × Expr × Int => (fun x : Int => I64 x) x.1 ∧ (fun x : Expr × Int => Expr.ok x.1 ∧ (fun x : Int => I64 x) x.2) x.2) x.2) x.2)) (fun y : ByteArray × (List ByteArray) × Int × Expr × Int => (⟨y.1, y.2.1, y.2.2.1, y.2.2.2.1, y.2.2.2.2⟩ : Node)) (fun _ => rfl) Try.underlying99 (zB (o' := 1) (f := (fun x : ByteArray => [(PV.v (.string x))])) (f' := (fun x : (List ByteArray) × Int × Expr × Int => (fun x : (List ByteArray) => [(PV.sl (List.map C_s x))]) x.1 ++ (fun x : Int × Expr × Int => (fun x : Int => [(PV.v (.int .i64 x))]) x.1 ++ (fun x : Expr × Int => Expr.cl x.1 ++ (fun x : Int => [(PV.v (.int .i64 x))]) x.2) x.2) x.2)) (G := (fun x : ByteArray => ByteArray.size x ≤ 140737488351232)) (G' := (fun x : (List ByteArray) × Int × Expr × Int => (fun x : (List ByteArray) => List.length x * 16 ≤ 140737488351232 ∧ ∀ y ∈ x, ByteArray.size y ≤ 140737488351232) x.1 ∧ (fun x : Int × Expr × Int => (fun x : Int => I64 x) x.1 ∧ (fun x : Expr × Int => Expr.ok x.1 ∧ (fun x : Int => I64 x) x.2) x.2) x.2)) rfl (by kernel_rfl) (qqe Try.underlying9 n) (zB (o' := 2) (f := (fun x : (List ByteArray) => [(PV.sl (List.map C_s x))])) (f' := (fun x : Int × Expr × Int => (fun x : Int => [(PV.v (.int .i64 x))]) x.1 ++ (fun x : Expr × Int => Expr.cl x.1 ++ (fun x : Int => [(PV.v (.int .i64 x))]) x.2) x.2)) (G := (fun x : (List ByteArray) => List.length x * 16 ≤ 140737488351232 ∧ ∀ y ∈ x, ByteArray.size y ≤ 140737488351232)) (G' := (fun x : Int × Expr × Int => (fun x : Int => I64 x) x.1 ∧ (fun x : Expr × Int => Expr.ok x.1 ∧ (fun x : Int => I64 x) x.2) x.2)) rfl (by kernel_rfl) (RO.down (ro_sl (B := 16) (sz := 1) Try.underlying97 (by kernel_rfl) (by kernel_rfl) (fun _ => rfl) (qqe Try.underlying9 n)) (Nat.le_succ _)) (zB (o' := 3) (f := (fun x : Int => [(PV.v (.int .i64 x))])) (f' := (fun x : Expr × Int => Expr.cl x.1 ++ (fun x : Int => [(PV.v (.int .i64 x))]) x.2)) (G := (fun x : Int => I64 x)) (G' := (fun x : Expr × Int => Expr.ok x.1 ∧ (fun x : Int => I64 x) x.2)) rfl (by kernel_rfl) (ZG Try.underlying2 n) (zB (o' := 9) (f := Expr.cl) (f' := (fun x : Int => [(PV.v (.int .i64 x))])) (G := Expr.ok) (G' := (fun x : Int => I64 x)) rfl (by kernel_rfl) (ro_Expr n) (YR (f := (fun x : Int => [(PV.v (.int .i64 x))])) (G := (fun x : Int => I64 x)) rfl (by kernel_rfl) (ZG Try.underlying3 n))))))).imp fun x ⟨y, hy, hg⟩ => by
 subst hy;exact ⟨hg.1, hg.2.1, hg.2.2.1, hg.2.2.2.1, hg.2.2.2.2⟩) (Nat.le_succ n)
theorem ro_Input (n : Nat) : RO Try.prog 96 Input.cl Input.ok n := RO.down ((JH (f := (fun x : ByteArray × Int × Int × Int => (fun x : ByteArray => [(PV.v (.string x))]) x.1 ++ (fun x : Int × Int × Int => (fun x : Int => [(PV.v (.int .i64 x))]) x.1 ++ (fun x : Int × Int => (fun x : Int => [(PV.v (.int .i64 x))]) x.1 ++ (fun x : Int => [(PV.v (.int .i64 x))]) x.2) x.2) x.2)) (G := (fun x : ByteArray × Int × Int × Int => (fun x : ByteArray => ByteArray.size x ≤ 140737488351232) x.1 ∧ (fun x : Int × Int × Int => (fun x : Int => I64 x) x.1 ∧ (fun x : Int × Int => (fun x : Int => I64 x) x.1 ∧ (fun x : Int => I64 x) x.2) x.2) x.2)) (fun y : ByteArray × Int × Int × Int => (⟨y.1, y.2.1, y.2.2.1, y.2.2.2⟩ : Input)) (fun _ => rfl) Try.underlying96 (zB (o' := 1) (f := (fun x : ByteArray => [(PV.v (.string x))])) (f' := (fun x : Int × Int × Int => (fun x : Int => [(PV.v (.int .i64 x))]) x.1 ++ (fun x : Int × Int => (fun x : Int => [(PV.v (.int .i64 x))]) x.1 ++ (fun x : Int => [(PV.v (.int .i64 x))]) x.2) x.2)) (G := (fun x : ByteArray => ByteArray.size x ≤ 140737488351232)) (G' := (fun x : Int × Int × Int => (fun x : Int => I64 x) x.1 ∧ (fun x : Int × Int => (fun x : Int => I64 x) x.1 ∧ (fun x : Int => I64 x) x.2) x.2)) rfl (by kernel_rfl) (qqe Try.underlying9 n) (zB (o' := 2) (f := (fun x : Int => [(PV.v (.int .i64 x))])) (f' := (fun x : Int × Int => (fun x : Int => [(PV.v (.int .i64 x))]) x.1 ++ (fun x : Int => [(PV.v (.int .i64 x))]) x.2)) (G := (fun x : Int => I64 x)) (G' := (fun x : Int × Int => (fun x : Int => I64 x) x.1 ∧ (fun x : Int => I64 x) x.2)) rfl (by kernel_rfl) (ZG Try.underlying2 n) (zB (o' := 3) (f := (fun x : Int => [(PV.v (.int .i64 x))])) (f' := (fun x : Int => [(PV.v (.int .i64 x))])) (G := (fun x : Int => I64 x)) (G' := (fun x : Int => I64 x)) rfl (by kernel_rfl) (ZG Try.underlying2 n) (YR (f := (fun x : Int => [(PV.v (.int .i64 x))])) (G := (fun x : Int => I64 x)) rfl (by kernel_rfl) (ZG Try.underlying3 n)))))).imp fun x ⟨y, hy, hg⟩ => by
 subst hy;exact ⟨hg.1, hg.2.1, hg.2.2.1, hg.2.2.2⟩) (Nat.le_succ n)
theorem ro_Flow (n : Nat) : RO Try.prog 41 Flow.cl Flow.ok n := RO.down ((JH (f := (fun x : ByteArray × Expr × Int => (fun x : ByteArray => [(PV.v (.string x))]) x.1 ++ (fun x : Expr × Int => Expr.cl x.1 ++ (fun x : Int => [(PV.v (.int .i64 x))]) x.2) x.2)) (G := (fun x : ByteArray × Expr × Int => (fun x : ByteArray => ByteArray.size x ≤ 140737488351232) x.1 ∧ (fun x : Expr × Int => Expr.ok x.1 ∧ (fun x : Int => I64 x) x.2) x.2)) (fun y : ByteArray × Expr × Int => (⟨y.1, y.2.1, y.2.2⟩ : Flow)) (fun _ => rfl) Try.underlying41 (zB (o' := 1) (f := (fun x : ByteArray => [(PV.v (.string x))])) (f' := (fun x : Expr × Int => Expr.cl x.1 ++ (fun x : Int => [(PV.v (.int .i64 x))]) x.2)) (G := (fun x : ByteArray => ByteArray.size x ≤ 140737488351232)) (G' := (fun x : Expr × Int => Expr.ok x.1 ∧ (fun x : Int => I64 x) x.2)) rfl (by kernel_rfl) (qqe Try.underlying9 n) (zB (o' := 7) (f := Expr.cl) (f' := (fun x : Int => [(PV.v (.int .i64 x))])) (G := Expr.ok) (G' := (fun x : Int => I64 x)) rfl (by kernel_rfl) (ro_Expr n) (YR (f := (fun x : Int => [(PV.v (.int .i64 x))])) (G := (fun x : Int => I64 x)) rfl (by kernel_rfl) (ZG Try.underlying3 n))))).imp fun x ⟨y, hy, hg⟩ => by
 subst hy;exact ⟨hg.1, hg.2.1, hg.2.2⟩) (Nat.le_succ n)
theorem ro_Output (n : Nat) : RO Try.prog 65 Output.cl Output.ok n := RO.down ((JH (f := (fun x : ByteArray × ByteArray × Int × Int => (fun x : ByteArray => [(PV.v (.string x))]) x.1 ++ (fun x : ByteArray × Int × Int => (fun x : ByteArray => [(PV.v (.string x))]) x.1 ++ (fun x : Int × Int => (fun x : Int => [(PV.v (.int .i64 x))]) x.1 ++ (fun x : Int => [(PV.v (.int .i64 x))]) x.2) x.2) x.2)) (G := (fun x : ByteArray × ByteArray × Int × Int => (fun x : ByteArray => ByteArray.size x ≤ 140737488351232) x.1 ∧ (fun x : ByteArray × Int × Int => (fun x : ByteArray => ByteArray.size x ≤ 140737488351232) x.1 ∧ (fun x : Int × Int => (fun x : Int => I64 x) x.1 ∧ (fun x : Int => I64 x) x.2) x.2) x.2)) (fun y : ByteArray × ByteArray × Int × Int => (⟨y.1, y.2.1, y.2.2.1, y.2.2.2⟩ : Output)) (fun _ => rfl) Try.underlying65 (zB (o' := 1) (f := (fun x : ByteArray => [(PV.v (.string x))])) (f' := (fun x : ByteArray × Int × Int => (fun x : ByteArray => [(PV.v (.string x))]) x.1 ++ (fun x : Int × Int => (fun x : Int => [(PV.v (.int .i64 x))]) x.1 ++ (fun x : Int => [(PV.v (.int .i64 x))]) x.2) x.2)) (G := (fun x : ByteArray => ByteArray.size x ≤ 140737488351232)) (G' := (fun x : ByteArray × Int × Int => (fun x : ByteArray => ByteArray.size x ≤ 140737488351232) x.1 ∧ (fun x : Int × Int => (fun x : Int => I64 x) x.1 ∧ (fun x : Int => I64 x) x.2) x.2)) rfl (by kernel_rfl) (qqe Try.underlying9 n) (zB (o' := 2) (f := (fun x : ByteArray => [(PV.v (.string x))])) (f' := (fun x : Int × Int => (fun x : Int => [(PV.v (.int .i64 x))]) x.1 ++ (fun x : Int => [(PV.v (.int .i64 x))]) x.2)) (G := (fun x : ByteArray => ByteArray.size x ≤ 140737488351232)) (G' := (fun x : Int × Int => (fun x : Int => I64 x) x.1 ∧ (fun x : Int => I64 x) x.2)) rfl (by kernel_rfl) (qqe Try.underlying9 n) (zB (o' := 3) (f := (fun x : Int => [(PV.v (.int .i64 x))])) (f' := (fun x : Int => [(PV.v (.int .i64 x))])) (G := (fun x : Int => I64 x)) (G' := (fun x : Int => I64 x)) rfl (by kernel_rfl) (ZG Try.underlying2 n) (YR (f := (fun x : Int => [(PV.v (.int .i64 x))])) (G := (fun x : Int => I64 x)) rfl (by kernel_rfl) (ZG Try.underlying3 n)))))).imp fun x ⟨y, hy, hg⟩ => by
 subst hy;exact ⟨hg.1, hg.2.1, hg.2.2.1, hg.2.2.2⟩) (Nat.le_succ n)
theorem ro_Program (n : Nat) : RO Try.prog 27 Program.cl Program.ok n := RO.down ((JH (f := (fun x : (List Node) × (List Input) × (List Flow) × (List Output) => (fun x : (List Node) => [(PV.sl (List.map Node.cl x))]) x.1 ++ (fun x : (List Input) × (List Flow) × (List Output) => (fun x : (List Input) => [(PV.sl (List.map Input.cl x))]) x.1 ++ (fun x : (List Flow) × (List Output) => (fun x : (List Flow) => [(PV.sl (List.map Flow.cl x))]) x.1 ++ (fun x : (List Output) => [(PV.sl (List.map Output.cl x))]) x.2) x.2) x.2)) (G := (fun x : (List Node) × (List Input) × (List Flow) × (List Output) => (fun x : (List Node) => List.length x * 128 ≤ 140737488351232 ∧ ∀ y ∈ x, Node.ok y) x.1 ∧ (fun x : (List Input) × (List Flow) × (List Output) => (fun x : (List Input) => List.length x * 40 ≤ 140737488351232 ∧ ∀ y ∈ x, Input.ok y) x.1 ∧ (fun x : (List Flow) × (List Output) => (fun x : (List Flow) => List.length x * 96 ≤ 140737488351232 ∧ ∀ y ∈ x, Flow.ok y) x.1 ∧ (fun x : (List Output) => List.length x * 48 ≤ 140737488351232 ∧ ∀ y ∈ x, Output.ok y) x.2) x.2) x.2)) (fun y : (List Node) × (List Input) × (List Flow) × (List Output) => (⟨y.1, y.2.1, y.2.2.1, y.2.2.2⟩ : Program)) (fun _ => rfl) Try.underlying27 (zB (o' := 1) (f := (fun x : (List Node) => [(PV.sl (List.map Node.cl x))])) (f' := (fun x : (List Input) × (List Flow) × (List Output) => (fun x : (List Input) => [(PV.sl (List.map Input.cl x))]) x.1 ++ (fun x : (List Flow) × (List Output) => (fun x : (List Flow) => [(PV.sl (List.map Flow.cl x))]) x.1 ++ (fun x : (List Output) => [(PV.sl (List.map Output.cl x))]) x.2) x.2)) (G := (fun x : (List Node) => List.length x * 128 ≤ 140737488351232 ∧ ∀ y ∈ x, Node.ok y)) (G' := (fun x : (List Input) × (List Flow) × (List Output) => (fun x : (List Input) => List.length x * 40 ≤ 140737488351232 ∧ ∀ y ∈ x, Input.ok y) x.1 ∧ (fun x : (List Flow) × (List Output) => (fun x : (List Flow) => List.length x * 96 ≤ 140737488351232 ∧ ∀ y ∈ x, Flow.ok y) x.1 ∧ (fun x : (List Output) => List.length x * 48 ≤ 140737488351232 ∧ ∀ y ∈ x, Output.ok y) x.2) x.2)) rfl (by kernel_rfl) (RO.down (ro_sl (B := 128) (sz := 10) Try.underlying22 (by kernel_rfl) (by kernel_rfl) (fun _ => rfl) (ro_Node n)) (Nat.le_succ _)) (zB (o' := 2) (f := (fun x : (List Input) => [(PV.sl (List.map Input.cl x))])) (f' := (fun x : (List Flow) × (List Output) => (fun x : (List Flow) => [(PV.sl (List.map Flow.cl x))]) x.1 ++ (fun x : (List Output) => [(PV.sl (List.map Output.cl x))]) x.2)) (G := (fun x : (List Input) => List.length x * 40 ≤ 140737488351232 ∧ ∀ y ∈ x, Input.ok y)) (G' := (fun x : (List Flow) × (List Output) => (fun x : (List Flow) => List.length x * 96 ≤ 140737488351232 ∧ ∀ y ∈ x, Flow.ok y) x.1 ∧ (fun x : (List Output) => List.length x * 48 ≤ 140737488351232 ∧ ∀ y ∈ x, Output.ok y) x.2)) rfl (by kernel_rfl) (RO.down (ro_sl (B := 40) (sz := 4) Try.underlying23 (by kernel_rfl) (by kernel_rfl) (fun _ => rfl) (ro_Input n)) (Nat.le_succ _)) (zB (o' := 3) (f := (fun x : (List Flow) => [(PV.sl (List.map Flow.cl x))])) (f' := (fun x : (List Output) => [(PV.sl (List.map Output.cl x))])) (G := (fun x : (List Flow) => List.length x * 96 ≤ 140737488351232 ∧ ∀ y ∈ x, Flow.ok y)) (G' := (fun x : (List Output) => List.length x * 48 ≤ 140737488351232 ∧ ∀ y ∈ x, Output.ok y)) rfl (by kernel_rfl) (RO.down (ro_sl (B := 96) (sz := 8) Try.underlying24 (by kernel_rfl) (by kernel_rfl) (fun _ => rfl) (ro_Flow n)) (Nat.le_succ _)) (YR (f := (fun x : (List Output) => [(PV.sl (List.map Output.cl x))])) (G := (fun x : (List Output) => List.length x * 48 ≤ 140737488351232 ∧ ∀ y ∈ x, Output.ok y)) rfl (by kernel_rfl) (RO.down (ro_sl (B := 48) (sz := 4) Try.underlying25 (by kernel_rfl) (by kernel_rfl) (fun _ => rfl) (ro_Output n)) (Nat.le_succ _))))))).imp fun x ⟨y, hy, hg⟩ => by
 subst hy;exact ⟨hg.1, hg.2.1, hg.2.2.1, hg.2.2.2⟩) (Nat.le_succ n)
end Go.Proofs.Ytohmmfimedgccaa.E
end
section
namespace Go.Proofs.Ytohmmfimedgccaa.flatMakes
open Go.ChangeShapes Go.WideShapes Go.ChangeAt Go.RowKit
theorem own : ownKnob Try.prog.godebug = none := by kernel_rfl
theorem laidOut : laidOutB Try.prog = true := by kernel_rfl
set_option maxRecDepth 100000 in
theorem lifted (os : Os) (started : os.Started) (H : Type) (enc : TypeId × Value → H) :
  ReturnsInHanded {} Try.checked os 5 .any (Rows.flatMakesSpec.pre6 enc Try.prog Try.f5 Rows.flatMakesRow.domain false) (Rows.flatMakesSpec.post enc Try.prog Try.f5 false true false false) := by
 refine returnsInHanded_of_change_sized (C := Try.checked) own started (by kernel_rfl) Try.func5
  (ChangeSpec.witness6 (enc := enc) (C := Try.checked) false ⟨#[], #[.agg #[.slice none 0 0, .slice none 0 0, .slice none 0 0, .slice none 0 0]], []⟩ 8 (by kernel_rfl) (by kernel_rfl) (by kernel_rfl) (by kernel_rfl)) ?_
 intro W base args ds gs before hval0 hW hcnd hsz0 _;have hval : ∀ (j : Nat) t v, Try.f5.params[j]? = some t → args[j]? = some v → Value.okWide Try.prog W .any base t v := hval0;have hW' := hW;obtain ⟨p, q, hA0, hV, rfl, hfz, hnd⟩ := hW;have hA : DataW.TrodAll enc Try.prog W 0 (fun _ => true) true Try.f5.params.toList args.toList ds p := hA0;rw [Try.params5] at hA hval;obtain ⟨v0, vs0, d0, ds0, p0, q0, hargs, rfl, rfl, h0, r0⟩ := trodAll_cons hA;obtain ⟨rfl, rfl, rfl⟩ := trodAll_nil r0;obtain rfl : args = #[v0] := by cases args; simp_all
 obtain ⟨rfl, rfl⟩ := trodVars_none hV;have k0 := h0;have lt0 : ∀ x ∈ p0, x.block < W.heap.size := by obtain ⟨m, hm⟩ := k0; exact DataW.trod_lt m _ _ _ hm
 obtain ⟨x0, y0, z0⟩ := E.arg_agg Try.underlying27 (hval 0 27 v0 rfl rfl) E.ro_Program h0 (fun x hx => of_decide_eq_true (List.all_eq_true.1 hsz0 x (DataW.weights_mem_each (j := 0) rfl rfl x hx)));clear hA0 hval0 hsz0;refine (E.law_calls Try.func5 rfl rfl (fun K hK => E.s_law x0 true (E.v_law x0 z0) [] K hK) ⟨rfl, fun i x p hx hp => by match i, hx, hp with | 0, hx, hp => obtain rfl := Option.some.inj hx; obtain rfl := Option.some.inj hp; exact y0 | i + 1, hx, _ => simp at hx⟩).mono fun e W' ⟨he, bel⟩ => ?_;subst he;exact ⟨_, rfl, _, _, _, [], _, [], hW', trodAll_mk1 (shut_bool Try.underlying4 _), (trodAll_cons_mk (Below.trod laidOut (by kernel_rfl) (of_decide_eq_true (by kernel_rfl)) k0 bel lt0) trodAll_mk0), rfl, bel.frame _, fun h => by cases h⟩
theorem over : Rows.flatMakesRow.holds Try.pinned (OpenSpec.ofChange Rows.flatMakesSpec) :=
 OpenClaim.holds_of_wide 5 Try.f5 rfl rfl rfl rfl rfl rfl rfl ⟨rfl, rfl, rfl, rfl, rfl⟩ rfl rfl rfl rfl rfl (by kernel_rfl) Try.func5 (by kernel_rfl)
  (of_decide_eq_true (by kernel_rfl)) (by unfold Func.isWrapper; first | (rw [if_pos (by decide +kernel)]; kernel_rfl) | (rw [if_neg (by decide +kernel)]; exact ⟨rfl, rfl⟩))
  (fun os started H enc _ => lifted os started H enc)
theorem proved : Rows.FlatMakesSaid := over
end Go.Proofs.Ytohmmfimedgccaa.flatMakes
namespace Go.Proofs.Ytohmmfimedgccaa
theorem flatMakes_holds : Rows.FlatMakesSaid := flatMakes.proved
end Go.Proofs.Ytohmmfimedgccaa
end
