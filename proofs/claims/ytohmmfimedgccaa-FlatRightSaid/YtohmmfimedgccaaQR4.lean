import Derived.Test.YtohmmfimedgccaaQR3
/- FlatRight: what is right of a flat program is told alike by the program and its reference, its model's walk and the plain law behind it. PART 5 OF 8: G65 G92 G123 PG PH G23 G25 G91 G50 G51 G13 PE PI G52 G61 PK G95 FA FB -/
section
namespace Go.Proofs.Ytohmmfimedgccaa.E
set_option maxRecDepth 100000
set_option maxHeartbeats 4000000
set_option linter.unusedVariables false
set_option linter.unusedSimpArgs false
noncomputable def B_clock_Right (a0 : Clock) : Option Bool :=
 some ((((decide ((1 : Int) ≤ a0.period)) && (decide (a0.period ≤ (2000 : Int)))) && (decide ((0 : Int) ≤ a0.phase))) && (decide (a0.phase ≤ (2000 : Int))))
theorem W_clock_Right : Sat_clock_Right (B_clock_Right) := by
 intro a0 r h σ K hK;refine qW Try.func65 rfl rfl (by kernel_rfl) ?_;unfold B_clock_Right at h;have hP := Pre.refl σ;have E0 : qz [(.ag (Clock.cl a0))] 0 = (.ag (Clock.cl a0)) := rfl;have TT := cj4 Clock.cle Expr.rlen T_2 T_43;refine qk (fun e s => ∃ i1 : Nat, Bx σ s i1 43 (Clock.cl a0) ∧ eP e 1 i1 ∧ Pre σ s) ?_ ?_
 ·refine w_x (cj2 E0 TT) ?_;exact qe ⟨σ.length, (Bx.new hP _ _), (xv (cj2 E0 TT)), (hP.app _)⟩
 rintro e s ⟨i1, X1, E1, hP⟩
 refine qk (fun e s => eB e 2 ((((decide ((1 : Int) ≤ a0.period)) && (decide (a0.period ≤ (2000 : Int)))) && (decide ((0 : Int) ≤ a0.phase))) && (decide (a0.phase ≤ (2000 : Int)))) ∧ Pre σ s) ?_ ?_
 ·cases hb1 : (decide ((1 : Int) ≤ a0.period))
  ·refine w_x (cj4 E1 X1.get hb1 TT) ?_;exact qe ⟨(xv (cj4 E1 X1.get hb1 TT)), hP⟩
  ·cases hb2 : (decide (a0.period ≤ (2000 : Int)))
   ·refine w_x (cj5 E1 X1.get hb1 hb2 TT) ?_;exact qe ⟨(xv (cj5 E1 X1.get hb1 hb2 TT)), hP⟩
   ·cases hb3 : (decide ((0 : Int) ≤ a0.phase))
    ·have q1 := cj6 E1 X1.get hb1 hb2 hb3 TT;refine w_x q1 ?_;exact qe ⟨(xv q1), hP⟩
    ·have q2 := cj6 E1 X1.get hb1 hb2 hb3 TT;refine w_x q2 ?_;exact qe ⟨(xv q2), hP⟩
 rintro e s ⟨E2, hP⟩
 refine qp ?_;obtain rfl := qa h;exact qt (fun _ => rfl) (xr (rs := #[.tmp 2]) (cj2 E2 TT)) hP (.refl _) (.v _) hK
noncomputable def B_clock_Apply (f0 : Clock → Option Bool) (f1 : Op → Option Int) (a0 : Clock) (a1 : Op) : Option (Clock × Int) :=
 (f1 a1).bind fun y1 =>
 (f0 a0).bind fun y3 =>
 (if (!y3) then
  some (12 : Int)
 else
  some y1 : Option Int).bind fun v7 =>
 if (!decide (v7 = (0 : Int))) then
  some ((Clock.mk (0 : Int) (0 : Int)), v7)
 else
  ((if (decide (a1.kind = (3 : Int))) then
   (Jb a0.period a1.n).bind fun y19 =>
   (quoO .i64 a0.period a1.n).bind fun y21 =>
   some ((decide (y19 = (0 : Int))), (Clock.mk y21 a0.phase))
  else
   (if (decide (a1.kind = (4 : Int))) then
    some (true, (Clock.mk (IntKind.i64.wrap (a0.period * a1.n)) a0.phase))
   else
    (if (decide (a1.kind = (5 : Int))) then
     (Jb (IntKind.i64.wrap (a0.period * a1.n)) a1.d).bind fun y33 =>
     (quoO .i64 (IntKind.i64.wrap (a0.period * a1.n)) a1.d).bind fun y35 =>
     some ((decide (y33 = (0 : Int))), (Clock.mk a0.period (IntKind.i64.wrap (a0.phase + y35))))
    else
     (if (decide (a1.kind = (7 : Int))) then
      some (true, (Clock.mk a0.period (IntKind.i64.wrap (a0.phase + a0.period))))
     else
      (if (decide (a1.kind = (8 : Int))) then
       some ((decide (a0.period ≤ a0.phase)), (Clock.mk a0.period (IntKind.i64.wrap (a0.phase - a0.period))))
      else
       some (true, a0) : Option (Bool × Clock)).bind fun (v44, v45) =>
      some (v44, v45) : Option (Bool × Clock)).bind fun (v39, v40) =>
     some (v39, v40) : Option (Bool × Clock)).bind fun (v30, v31) =>
    some (v30, v31) : Option (Bool × Clock)).bind fun (v25, v26) =>
   some (v25, v26) : Option (Bool × Clock)).bind fun (v16, v17) =>
  some (v16, v17) : Option (Bool × Clock)).bind fun (v12, v13) =>
  (if (!v12) then
   some (.inl ((Clock.mk (0 : Int) (0 : Int)), (5 : Int)))
  else
   (f0 v13).bind fun y51 =>
   if (!y51) then
    some (.inl ((Clock.mk (0 : Int) (0 : Int)), (7 : Int)))
   else
    some (.inr (Clock.mk (0 : Int) (0 : Int))) : Option ((Clock × Int) ⊕ Clock)).bind fun x => match x with
  | .inl r => some r
  | .inr v49 =>
   some (v13, (0 : Int))
abbrev C92_0 (z0 z1 : Store) (z2 : Nat) : Prop := Bx z0 z1 z2 43 [(.v (.int .i64 (0 : Int))), (.v (.int .i64 (0 : Int)))]
theorem W_clock_Apply (f0 f1) (S0 : Sat_clock_Right f0) (S1 : Sat_clock_factor f1) : Sat_clock_Apply (B_clock_Apply f0 f1) := by
 intro a0 a1 r h σ K hK;refine qW Try.func92 rfl rfl (by kernel_rfl) ?_;unfold B_clock_Apply at h;have hP := Pre.refl σ;have E0 : qz [(.ag (Clock.cl a0)), (.ag (Op.cl a1))] 0 = (.ag (Clock.cl a0)) := rfl;have E1 : qz [(.ag (Clock.cl a0)), (.ag (Op.cl a1))] 1 = (.ag (Op.cl a1)) := rfl;have TT := cj8 Clock.cle Expr.rlen Op.cle T_119 T_2 T_3 T_30 T_43;refine qk (fun e s => ∃ i2 i3 i4 : Nat, Bx σ s i2 43 (Clock.cl a0) ∧ Bx σ s i3 119 (Op.cl a1) ∧ C92_0 σ s i4 ∧ eP e 2 i2 ∧ eP e 3 i3 ∧ eP e 4 i4 ∧ i2 ≠ i3 ∧ i2 ≠ i4 ∧ i3 ≠ i4 ∧ Pre σ s) ?_ ?_
 ·have q1 := cj3 E0 E1 TT;refine w_x q1 ?_;have q2 := Bx.new hP 43 (Clock.cl a0);exact qe ⟨σ.length, (σ ++ [some (AObj.box 43 (Clock.cl a0))]).length, ((σ ++ [some (AObj.box 43 (Clock.cl a0))]) ++ [some (AObj.box 119 (Op.cl a1))]).length, ((q2.app _).app _), ((Bx.new (hP.app _) 119 (Op.cl a1)).app [some (AObj.box 43 [(.v (.int .i64 (0 : Int))), (.v (.int .i64 (0 : Int)))])]), (Bx.new ((hP.app _).app _) 43 [(.v (.int .i64 (0 : Int))), (.v (.int .i64 (0 : Int)))]), (xv q1), (xv q1), (xv q1), (Nat.ne_of_lt q2.lt), (Nat.ne_of_lt (q2.app [some (AObj.box 119 (Op.cl a1))]).lt), (Nat.ne_of_lt (Bx.new (hP.app _) 119 (Op.cl a1)).lt), (((hP.app _).app _).app _)⟩
 rintro e s ⟨i2, i3, i4, X2, X3, X4, E2, E3, E4, N2__3, N2__4, N3__4, hP⟩
 refine qd ?_;obtain ⟨y1, h2, h⟩ := qb h;refine w_x (cj3 E3 X3.get TT) ?_;refine S1 _ _ h2 _ _  ?_;refine w_y (cj3 E3 X3.get TT) ?_;refine qf (ql (qd ?_));obtain ⟨y3, h4, h⟩ := qb h;refine w_x (cj3 E2 X2.get TT) ?_;refine S0 _ _ h4 _ _  ?_;refine w_y (cj3 E2 X2.get TT) ?_;refine qf ?_;obtain ⟨x5, h6, h⟩ := qb h;refine qk (fun e s => ∃ v7, v7 = x5 ∧ Bx σ s i2 43 (Clock.cl a0) ∧ Bx σ s i3 119 (Op.cl a1) ∧ C92_0 σ s i4 ∧ eP e 2 i2 ∧ eP e 3 i3 ∧ eP e 4 i4 ∧ eI e 6 v7 ∧ i2 ≠ i3 ∧ i2 ≠ i4 ∧ i3 ≠ i4 ∧ Pre σ s) ?_ ?_
 ·rcases qi h6 with ⟨hb8, h6⟩ | ⟨hb8, h6⟩
  ·refine xt hb8 (w_x Expr.rlen ?_);obtain rfl := qa h6;exact qe ⟨_, rfl, X2, X3, X4, E2, E3, E4, (xv Expr.rlen), N2__3, N2__4, N3__4, hP⟩
  ·refine xf hb8 (qm ?_);obtain rfl := qa h6;exact qe ⟨_, rfl, X2, X3, X4, E2, E3, E4, (xv TT), N2__3, N2__4, N3__4, hP⟩
 rintro e s ⟨v7, rfl, X2, X3, X4, E2, E3, E4, E6, N2__3, N2__4, N3__4, hP⟩
 (try dsimp only at h);refine ql (qd (w_x (cj2 E6 TT) ?_));refine qf (qd ?_);rcases qi h with ⟨hb9, h⟩ | ⟨hb9, h⟩
 ·refine xt hb9 (qk (fun e s => C92_0 σ s i4 ∧ eP e 4 i4 ∧ eI e 5 v7 ∧ Pre σ s) ?_ ?_)
  ·have q3 := X4.same 43 [(.v (.int .i64 (0 : Int))), (.v (.int .i64 (0 : Int)))];refine w_x (cj5 E4 E6 X4.get q3.get TT) ?_;exact qe ⟨q3, E4, (xv (cj5 E4 E6 X4.get q3.get TT)), (hP.set X4.le (some (AObj.box 43 [(.v (.int .i64 (0 : Int))), (.v (.int .i64 (0 : Int)))])))⟩
  rintro e s ⟨X4, E4, E5, hP⟩
  refine qp (zd ?_);obtain rfl := qa h;exact qt (fun _ => rfl) (xr (rs := #[.cell 4 43, .tmp 5]) (cj4 X4.get E4 E5 TT)) hP (.refl _) (.tu (CnL.cons (.ag (CnL.cons (.v _) (CnL.cons (.v _) CnL.nil))) (CnL.cons (.v _) CnL.nil))) hK
 ·refine xf hb9 (qm (qf (qd (w_x Expr.rlen ?_))));refine qf (ql (qd (w_x (cj3 E3 X3.get TT) ?_)));refine qf ?_;obtain ⟨x10, h11, h⟩ := qb h;refine qk (fun e s => ∃ v12 v13, (v12, v13) = x10 ∧ Bx σ s i2 43 (Clock.cl v13) ∧ C92_0 σ s i4 ∧ eP e 2 i2 ∧ eP e 4 i4 ∧ eB e 7 v12 ∧ i2 ≠ i4 ∧ Pre σ s) ?_ ?_
  ·refine qn (qd (w_x TT ?_));refine qf ?_;obtain ⟨x14, h15, h11⟩ := qb h11;refine zE (fun e s => ∃ v16 v17, (v16, v17) = x14 ∧ Bx σ s i2 43 (Clock.cl v17) ∧ C92_0 σ s i4 ∧ eP e 2 i2 ∧ eP e 4 i4 ∧ eB e 7 v16 ∧ i2 ≠ i4 ∧ Pre σ s) ?_ ?_
   ·rcases qi h15 with ⟨hb18, h15⟩ | ⟨hb18, h15⟩
    ·refine xt hb18 (qd ?_);obtain ⟨y19, h20, h15⟩ := qb h15;refine w_x (cj7 E2 E3 X2.get X3.get (eq_false (qV h20).1) (qV h20).2 TT) ?_;refine qf ?_;obtain ⟨y21, h22, h15⟩ := qb h15;have q4 := X2.same 43 [(.v (.int .i64 y21)), (.v (.int .i64 a0.phase))];have q5 := X3.ne N2__3 (some (AObj.box 43 [(.v (.int .i64 y21)), (.v (.int .i64 a0.phase))]));have q6 := cj9 E2 E3 X2.get X3.get (eq_false (Zw h22).1) (Zw h22).2 q4.get q5.get TT;refine w_x q6 ?_;obtain rfl := qa h15;exact qS ⟨_, _, rfl, q4, (X4.ne N2__4 _), E2, E4, (xv q6), N2__4, (hP.set X2.le (some (AObj.box 43 [(.v (.int .i64 y21)), (.v (.int .i64 a0.phase))])))⟩
    ·refine xf hb18 (qd (w_x TT ?_));refine qf ?_;obtain ⟨x23, h24, h15⟩ := qb h15;refine zE (fun e s => ∃ v25 v26, (v25, v26) = x23 ∧ Bx σ s i2 43 (Clock.cl v26) ∧ C92_0 σ s i4 ∧ eP e 2 i2 ∧ eP e 4 i4 ∧ eB e 7 v25 ∧ i2 ≠ i4 ∧ Pre σ s) ?_ ?_
     ·rcases qi h24 with ⟨hb27, h24⟩ | ⟨hb27, h24⟩
      ·refine xt hb27 ?_;have q7 := X2.same 43 [(.v (.int .i64 (IntKind.i64.wrap (a0.period * a1.n)))), (.v (.int .i64 a0.phase))];have q8 := X3.ne N2__3 (some (AObj.box 43 [(.v (.int .i64 (IntKind.i64.wrap (a0.period * a1.n)))), (.v (.int .i64 a0.phase))]));have q9 := cj7 E2 E3 X2.get X3.get q7.get q8.get TT;refine w_x q9 ?_;obtain rfl := qa h24;exact qS ⟨_, _, rfl, q7, (X4.ne N2__4 _), E2, E4, (xv q9), N2__4, (hP.set X2.le (some (AObj.box 43 [(.v (.int .i64 (IntKind.i64.wrap (a0.period * a1.n)))), (.v (.int .i64 a0.phase))])))⟩
      ·refine xf hb27 (qd (w_x TT ?_));refine qf ?_;obtain ⟨x28, h29, h24⟩ := qb h24;refine zE (fun e s => ∃ v30 v31, (v30, v31) = x28 ∧ Bx σ s i2 43 (Clock.cl v31) ∧ C92_0 σ s i4 ∧ eP e 2 i2 ∧ eP e 4 i4 ∧ eB e 7 v30 ∧ i2 ≠ i4 ∧ Pre σ s) ?_ ?_
       ·rcases qi h29 with ⟨hb32, h29⟩ | ⟨hb32, h29⟩
        ·refine xt hb32 (qd ?_);obtain ⟨y33, h34, h29⟩ := qb h29;refine w_x (cj7 E2 E3 X2.get X3.get (eq_false (qV h34).1) (qV h34).2 TT) ?_;refine qf ?_;obtain ⟨y35, h36, h29⟩ := qb h29;have q10 := X2.same 43 [(.v (.int .i64 a0.period)), (.v (.int .i64 (IntKind.i64.wrap (a0.phase + y35))))];have q11 := X3.ne N2__3 (some (AObj.box 43 [(.v (.int .i64 a0.period)), (.v (.int .i64 (IntKind.i64.wrap (a0.phase + y35))))]));have q12 := cj9 E2 E3 X2.get X3.get (eq_false (Zw h36).1) (Zw h36).2 q10.get q11.get TT;refine zn 10 0 q12 ?_;refine za q12 ?_;obtain rfl := qa h29;exact qS ⟨_, _, rfl, q10, (X4.ne N2__4 _), E2, E4, (xv q12), N2__4, (hP.set X2.le (some (AObj.box 43 [(.v (.int .i64 a0.period)), (.v (.int .i64 (IntKind.i64.wrap (a0.phase + y35))))])))⟩
        ·refine xf hb32 (qd (w_x TT ?_));refine qf ?_;obtain ⟨x37, h38, h29⟩ := qb h29;refine zE (fun e s => ∃ v39 v40, (v39, v40) = x37 ∧ Bx σ s i2 43 (Clock.cl v40) ∧ C92_0 σ s i4 ∧ eP e 2 i2 ∧ eP e 4 i4 ∧ eB e 7 v39 ∧ i2 ≠ i4 ∧ Pre σ s) ?_ ?_
         ·rcases qi h38 with ⟨hb41, h38⟩ | ⟨hb41, h38⟩
          ·refine xt hb41 ?_;have q13 := X2.same 43 [(.v (.int .i64 a0.period)), (.v (.int .i64 (IntKind.i64.wrap (a0.phase + a0.period))))];refine w_x (cj4 E2 X2.get q13.get TT) ?_;obtain rfl := qa h38;exact qS ⟨_, _, rfl, q13, (X4.ne N2__4 _), E2, E4, (xv (cj4 E2 X2.get q13.get TT)), N2__4, (hP.set X2.le (some (AObj.box 43 [(.v (.int .i64 a0.period)), (.v (.int .i64 (IntKind.i64.wrap (a0.phase + a0.period))))])))⟩
          ·refine xf hb41 (qd (w_x TT ?_));refine qf ?_;obtain ⟨x42, h43, h38⟩ := qb h38;refine zE (fun e s => ∃ v44 v45, (v44, v45) = x42 ∧ Bx σ s i2 43 (Clock.cl v45) ∧ C92_0 σ s i4 ∧ eP e 2 i2 ∧ eP e 4 i4 ∧ eB e 7 v44 ∧ i2 ≠ i4 ∧ Pre σ s) ?_ ?_
           ·rcases qi h43 with ⟨hb46, h43⟩ | ⟨hb46, h43⟩
            ·refine xt hb46 (qd (w_x (cj3 E2 X2.get TT) ?_));refine qf ?_;have q14 := X2.same 43 [(.v (.int .i64 a0.period)), (.v (.int .i64 (IntKind.i64.wrap (a0.phase - a0.period))))];refine w_x (cj4 E2 X2.get q14.get TT) ?_;obtain rfl := qa h43;exact qS ⟨_, _, rfl, q14, (X4.ne N2__4 _), E2, E4, (xv (cj4 E2 X2.get q14.get TT)), N2__4, (hP.set X2.le (some (AObj.box 43 [(.v (.int .i64 a0.period)), (.v (.int .i64 (IntKind.i64.wrap (a0.phase - a0.period))))])))⟩
            ·refine xf hb46 (qm ?_);obtain rfl := qa h43;exact qS ⟨_, _, rfl, X2, X4, E2, E4, (xv TT), N2__4, hP⟩
           rintro e s ⟨v44, v45, rfl, X2, X4, E2, E4, E7, N2__4, hP⟩
           (try dsimp only at h38);obtain rfl := qa h38;exact qS ⟨_, _, rfl, X2, X4, E2, E4, E7, N2__4, hP⟩
         rintro e s ⟨v39, v40, rfl, X2, X4, E2, E4, E7, N2__4, hP⟩
         (try dsimp only at h29);obtain rfl := qa h29;exact qS ⟨_, _, rfl, X2, X4, E2, E4, E7, N2__4, hP⟩
       rintro e s ⟨v30, v31, rfl, X2, X4, E2, E4, E7, N2__4, hP⟩
       (try dsimp only at h24);obtain rfl := qa h24;exact qS ⟨_, _, rfl, X2, X4, E2, E4, E7, N2__4, hP⟩
     rintro e s ⟨v25, v26, rfl, X2, X4, E2, E4, E7, N2__4, hP⟩
     (try dsimp only at h15);obtain rfl := qa h15;exact qS ⟨_, _, rfl, X2, X4, E2, E4, E7, N2__4, hP⟩
   rintro e s ⟨v16, v17, rfl, X2, X4, E2, E4, E7, N2__4, hP⟩
   (try dsimp only at h11);refine qQ ?_;obtain rfl := qa h11;exact qe ⟨_, _, rfl, X2, X4, E2, E4, E7, N2__4, hP⟩
  rintro e s ⟨v12, v13, rfl, X2, X4, E2, E4, E7, N2__4, hP⟩
  (try dsimp only at h);obtain ⟨x47, h48, h⟩ := qb h;refine qk (fun e s => ∃ v49 : Clock, .inr v49 = x47 ∧ Bx σ s i2 43 (Clock.cl v13) ∧ Bx σ s i4 43 (Clock.cl v49) ∧ eP e 2 i2 ∧ eP e 4 i4 ∧ i2 ≠ i4 ∧ Pre σ s) ?_ ?_
  ·refine qn (qd (w_x (cj2 E7 TT) ?_));refine qf ?_;rcases qi h48 with ⟨hb50, h48⟩ | ⟨hb50, h48⟩
   ·refine xt hb50 (qk (fun e s => C92_0 σ s i4 ∧ eP e 4 i4 ∧ eI e 5 (5 : Int) ∧ Pre σ s) ?_ ?_)
    ·have q15 := X4.same 43 [(.v (.int .i64 (0 : Int))), (.v (.int .i64 (0 : Int)))];refine w_x (cj4 E4 X4.get q15.get TT) ?_;exact qe ⟨q15, E4, (xv (cj4 E4 X4.get q15.get TT)), (hP.set X4.le (some (AObj.box 43 [(.v (.int .i64 (0 : Int))), (.v (.int .i64 (0 : Int)))])))⟩
    rintro e s ⟨X4, E4, E5, hP⟩
    refine qp (qw ?_);obtain rfl := qa h48;refine qB ?_;(try dsimp only at h);obtain rfl := qa h;exact qt (fun _ => rfl) (xr (rs := #[.cell 4 43, .tmp 5]) (cj4 X4.get E4 E5 TT)) hP (.refl _) (.tu (CnL.cons (.ag (CnL.cons (.v _) (CnL.cons (.v _) CnL.nil))) (CnL.cons (.v _) CnL.nil))) hK
   ·refine xf hb50 (qd ?_);obtain ⟨y51, h52, h48⟩ := qb h48;refine w_x (cj3 E2 X2.get TT) ?_;refine S0 _ _ h52 _ _  ?_;refine w_y (cj3 E2 X2.get TT) ?_;refine qf ?_;rcases qi h48 with ⟨hb53, h48⟩ | ⟨hb53, h48⟩
    ·refine xt hb53 (qk (fun e s => C92_0 σ s i4 ∧ eP e 4 i4 ∧ eI e 5 (7 : Int) ∧ Pre σ s) ?_ ?_)
     ·have q16 := X4.same 43 [(.v (.int .i64 (0 : Int))), (.v (.int .i64 (0 : Int)))];refine w_x (cj4 E4 X4.get q16.get TT) ?_;exact qe ⟨q16, E4, (xv (cj4 E4 X4.get q16.get TT)), (hP.set X4.le (some (AObj.box 43 [(.v (.int .i64 (0 : Int))), (.v (.int .i64 (0 : Int)))])))⟩
     rintro e s ⟨X4, E4, E5, hP⟩
     refine qp (qw ?_);obtain rfl := qa h48;refine qB ?_;(try dsimp only at h);obtain rfl := qa h;exact qt (fun _ => rfl) (xr (rs := #[.cell 4 43, .tmp 5]) (cj4 X4.get E4 E5 TT)) hP (.refl _) (.tu (CnL.cons (.ag (CnL.cons (.v _) (CnL.cons (.v _) CnL.nil))) (CnL.cons (.v _) CnL.nil))) hK
    ·refine xf hb53 (qm (qQ ?_));obtain rfl := qa h48;exact qe ⟨_, rfl, X2, X4, E2, E4, N2__4, hP⟩
  rintro e s ⟨v49, rfl, X2, X4, E2, E4, N2__4, hP⟩
  (try dsimp only at h);refine qk (fun e s => Bx σ s i4 43 (Clock.cl v13) ∧ eP e 4 i4 ∧ eI e 5 (0 : Int) ∧ Pre σ s) ?_ ?_
  ·have q17 := X4.same 43 (Clock.cl v13);have q18 := X2.ne (Ne.symm N2__4) (some (AObj.box 43 (Clock.cl v13)));have q19 := cj7 E2 E4 X2.get X4.get q18.get q17.get TT;refine w_x q19 ?_;exact qe ⟨q17, E4, (xv q19), (hP.set X4.le (some (AObj.box 43 (Clock.cl v13))))⟩
  rintro e s ⟨X4, E4, E5, hP⟩
  refine qp ?_;obtain rfl := qa h;exact qt (fun _ => rfl) (xr (rs := #[.cell 4 43, .tmp 5]) (cj4 X4.get E4 E5 TT)) hP (.refl _) (.tu (CnL.cons (.ag (CnL.cons (.v _) (CnL.cons (.v _) CnL.nil))) (CnL.cons (.v _) CnL.nil))) hK
noncomputable def B_clock_factor (a0 : Op) : Option Int :=
 ((((if (decide (a0.kind = (5 : Int))) then
  some (.inr (.inr (.inr ())))
 else
  (if (decide (a0.kind = (3 : Int))) then
   some (decide (a0.kind = (3 : Int)))
  else
   some (decide (a0.kind = (4 : Int))) : Option Bool).bind fun v13 =>
  if v13 then
   some (.inr (.inl (1 : Int)))
  else
   (if (decide (a0.kind = (6 : Int))) then
    some (decide (a0.kind = (6 : Int)))
   else
    (if (decide (a0.kind = (7 : Int))) then
     some (decide (a0.kind = (7 : Int)))
    else
     some (decide (a0.kind = (8 : Int))) : Option Bool).bind fun v22 =>
    some v22 : Option Bool).bind fun v18 =>
   if v18 then
    some (.inr (.inr (.inl ())))
   else
    some (.inl ()) : Option (Unit ⊕ Int ⊕ Unit ⊕ Unit)).bind fun x => match x with
 | .inl r => some (.inl r)
 | .inr (.inl r) => some (.inr (.inr (.inr r)))
 | .inr (.inr (.inl r)) => some (.inr (.inl r))
 | .inr (.inr (.inr _)) =>
  if ((decide (a0.d < (1 : Int))) || (decide ((100 : Int) < a0.d))) then
   some (.inr (.inr (.inl (7 : Int))))
  else
   some (.inr (.inr (.inr (0 : Int)))) : Option (Unit ⊕ Unit ⊕ Int ⊕ Int)).bind fun x => match x with
 | .inl r => some (.inl r)
 | .inr (.inl r) => some (.inr (.inr r))
 | .inr (.inr (.inl r)) => some (.inr (.inl r))
 | .inr (.inr (.inr v7)) =>
  if ((decide (a0.n < v7)) || (decide ((100 : Int) < a0.n))) then
   some (.inr (.inl (7 : Int)))
  else
   some (.inr (.inr ())) : Option (Unit ⊕ Int ⊕ Unit)).bind fun x => match x with
 | .inl r => some (.inr r)
 | .inr (.inl r) => some (.inl r)
 | .inr (.inr _) =>
  some (.inl (0 : Int)) : Option (Int ⊕ Unit)).bind fun x => match x with
 | .inl r => some r
 | .inr _ =>
  some (12 : Int)
theorem W_clock_factor : Sat_clock_factor (B_clock_factor) := by
 intro a0 r h σ K hK;refine qW Try.func123 rfl rfl (by kernel_rfl) ?_;unfold B_clock_factor at h;have hP := Pre.refl σ;have E0 : qz [(.ag (Op.cl a0))] 0 = (.ag (Op.cl a0)) := rfl;have TT := cj5 Expr.rlen Op.cle T_119 T_2 T_3;refine qk (fun e s => ∃ i1 : Nat, Bx σ s i1 119 (Op.cl a0) ∧ eP e 1 i1 ∧ Pre σ s) ?_ ?_
 ·refine w_x (cj2 E0 TT) ?_;exact qe ⟨σ.length, (Bx.new hP _ _), (xv (cj2 E0 TT)), (hP.app _)⟩
 rintro e s ⟨i1, X1, E1, hP⟩
 refine qd (w_x Expr.rlen ?_);refine qf (ql (qd (w_x (cj3 E1 X1.get TT) ?_)));refine qf ?_;obtain ⟨x1, h2, h⟩ := qb h;refine qk (fun e s => .inr () = x1 ∧ Pre σ s) ?_ ?_
 ·refine qn ?_;obtain ⟨x3, h4, h2⟩ := qb h2;refine qk (fun e s => .inr (.inr ()) = x3 ∧ Pre σ s) ?_ ?_
  ·refine qn ?_;obtain ⟨x5, h6, h4⟩ := qb h4;refine qk (fun e s => ∃ v7 : Int, .inr (.inr (.inr v7)) = x5 ∧ Bx σ s i1 119 (Op.cl a0) ∧ eP e 1 i1 ∧ eI e 3 v7 ∧ Pre σ s) ?_ ?_
   ·refine qn ?_;obtain ⟨x8, h9, h6⟩ := qb h6;refine qk (fun e s => .inr (.inr (.inr ())) = x8 ∧ Bx σ s i1 119 (Op.cl a0) ∧ eP e 1 i1 ∧ Pre σ s) ?_ ?_
    ·refine qn (ql (ql (qd (w_x TT ?_))));refine qf (qd ?_);rcases qi h9 with ⟨hb10, h9⟩ | ⟨hb10, h9⟩
     ·refine xt hb10 (qE (qM (qK ?_)));obtain rfl := qa h9;exact qe ⟨rfl, X1, E1, hP⟩
     ·refine xf hb10 (qm (qf (ql (ql (ql (qd (w_x TT ?_)))))));refine qf ?_;obtain ⟨x11, h12, h9⟩ := qb h9;refine qk (fun e s => ∃ v13, v13 = x11 ∧ Bx σ s i1 119 (Op.cl a0) ∧ eP e 1 i1 ∧ eI e 3 (1 : Int) ∧ eI e 5 a0.kind ∧ eB e 8 v13 ∧ Pre σ s) ?_ ?_
      ·rcases qi h12 with ⟨hb14, h12⟩ | ⟨hb14, h12⟩
       ·refine xt hb14 (qm ?_);obtain rfl := qa h12;exact qe ⟨_, rfl, X1, E1, (xv TT), (xv TT), (xv TT), hP⟩
       ·refine xf hb14 (w_x TT ?_);obtain rfl := qa h12;exact qe ⟨_, rfl, X1, E1, (xv TT), (xv TT), (xv TT), hP⟩
      rintro e s ⟨v13, rfl, X1, E1, E3, E5, E8, hP⟩
      (try dsimp only at h9);refine qd ?_;rcases qi h9 with ⟨hb15, h9⟩ | ⟨hb15, h9⟩
      ·refine xt (cj2 E8 hb15) (qE (qM (w_bky (by decide) ?_)));obtain rfl := qa h9;refine cw_x ?_;(try dsimp only at h6);refine qK ?_;obtain rfl := qa h6;exact qe ⟨_, rfl, X1, E1, E3, hP⟩
      ·refine xf (cj2 E8 hb15) (qm (qf (ql (ql (qd (w_x (cj2 E5 TT) ?_))))));refine qf ?_;obtain ⟨x16, h17, h9⟩ := qb h9;refine qk (fun e s => ∃ v18, v18 = x16 ∧ eB e 11 v18 ∧ Pre σ s) ?_ ?_
       ·rcases qi h17 with ⟨hb19, h17⟩ | ⟨hb19, h17⟩
        ·refine xt hb19 (qm ?_);obtain rfl := qa h17;exact qe ⟨_, rfl, (xv TT), hP⟩
        ·refine xf hb19 (qd (w_x (cj2 E5 TT) ?_));refine qf ?_;obtain ⟨x20, h21, h17⟩ := qb h17;refine zE (fun e s => ∃ v22, v22 = x20 ∧ eB e 11 v22 ∧ Pre σ s) ?_ ?_
         ·rcases qi h21 with ⟨hb23, h21⟩ | ⟨hb23, h21⟩
          ·refine xt hb23 (qm ?_);obtain rfl := qa h21;exact qS ⟨_, rfl, (xv TT), hP⟩
          ·refine xf hb23 (w_x (cj2 E5 TT) ?_);obtain rfl := qa h21;exact qS ⟨_, rfl, (xv (cj2 E5 TT)), hP⟩
         rintro e s ⟨v22, rfl, E11, hP⟩
         (try dsimp only at h17);obtain rfl := qa h17;exact qe ⟨_, rfl, E11, hP⟩
       rintro e s ⟨v18, rfl, E11, hP⟩
       (try dsimp only at h9);refine qd ?_;rcases qi h9 with ⟨hb24, h9⟩ | ⟨hb24, h9⟩
       ·refine xt (cj2 E11 hb24) (qE (qM (w_bky (by decide) ?_)));obtain rfl := qa h9;refine cw_x ?_;(try dsimp only at h6);refine w_bky (by decide) ?_;obtain rfl := qa h6;refine cw_x ?_;(try dsimp only at h4);refine qK ?_;obtain rfl := qa h4;exact qe ⟨rfl, hP⟩
       ·refine xf (cj2 E11 hb24) (qm (qf (qE (w_bky (by decide) ?_))));obtain rfl := qa h9;refine cw_x ?_;(try dsimp only at h6);refine w_bky (by decide) ?_;obtain rfl := qa h6;refine cw_x ?_;(try dsimp only at h4);refine w_bky (by decide) ?_;obtain rfl := qa h4;refine cw_x ?_;(try dsimp only at h2);refine qK ?_;obtain rfl := qa h2;exact qe ⟨rfl, hP⟩
    rintro e s ⟨rfl, X1, E1, hP⟩
    (try dsimp only at h6);refine ql (qk (fun e s => Bx σ s i1 119 (Op.cl a0) ∧ eP e 1 i1 ∧ eB e 22 ((decide (a0.d < (1 : Int))) || (decide ((100 : Int) < a0.d))) ∧ Pre σ s) ?_ ?_)
    ·cases hb25 : (decide (a0.d < (1 : Int)))
     ·refine w_x (cj4 E1 X1.get hb25 TT) ?_;exact qe ⟨X1, E1, (xv (cj4 E1 X1.get hb25 TT)), hP⟩
     ·refine w_x (cj4 E1 X1.get hb25 TT) ?_;exact qe ⟨X1, E1, (xv (cj4 E1 X1.get hb25 TT)), hP⟩
    rintro e s ⟨X1, E1, E22, hP⟩
    refine qd ?_;rcases qi h6 with ⟨hb26, h6⟩ | ⟨hb26, h6⟩
    ·refine xt (cj2 E22 hb26) (qd (w_x Expr.rlen ?_));refine qf (qp (zd (qw ?_)));obtain rfl := qa h6;refine qB ?_;(try dsimp only at h4);refine qw ?_;obtain rfl := qa h4;refine qB ?_;(try dsimp only at h2);refine qw ?_;obtain rfl := qa h2;refine qB ?_;(try dsimp only at h);obtain rfl := qa h;exact qt (fun _ => rfl) (xr (rs := #[.tmp 2]) TT) hP (.refl _) (.v _) hK
    ·refine xf (cj2 E22 hb26) (qm (qf (w_x Expr.rlen ?_)));refine qQ ?_;obtain rfl := qa h6;exact qe ⟨_, rfl, X1, E1, (xv Expr.rlen), hP⟩
   rintro e s ⟨v7, rfl, X1, E1, E3, hP⟩
   (try dsimp only at h4);refine qk (fun e s => eB e 31 ((decide (a0.n < v7)) || (decide ((100 : Int) < a0.n))) ∧ Pre σ s) ?_ ?_
   ·cases hb27 : (decide (a0.n < v7))
    ·refine w_x (cj5 E1 E3 X1.get hb27 TT) ?_;exact qe ⟨(xv (cj5 E1 E3 X1.get hb27 TT)), hP⟩
    ·refine w_x (cj5 E1 E3 X1.get hb27 TT) ?_;exact qe ⟨(xv (cj5 E1 E3 X1.get hb27 TT)), hP⟩
   rintro e s ⟨E31, hP⟩
   rcases qi h4 with ⟨hb28, h4⟩ | ⟨hb28, h4⟩
   ·refine xt (cj2 E31 hb28) (qd (w_x Expr.rlen ?_));refine qf (qp (qw ?_));obtain rfl := qa h4;refine qB ?_;(try dsimp only at h2);refine qw ?_;obtain rfl := qa h2;refine qB ?_;(try dsimp only at h);obtain rfl := qa h;exact qt (fun _ => rfl) (xr (rs := #[.tmp 2]) TT) hP (.refl _) (.v _) hK
   ·refine xf (cj2 E31 hb28) (qm (qQ ?_));obtain rfl := qa h4;exact qe ⟨rfl, hP⟩
  rintro e s ⟨rfl, hP⟩
  (try dsimp only at h2);refine qd (qd (w_x Expr.rlen ?_));refine qf (qp (zd (qw ?_)));obtain rfl := qa h2;refine qB ?_;(try dsimp only at h);obtain rfl := qa h;exact qt (fun _ => rfl) (xr (rs := #[.tmp 2]) TT) hP (.refl _) (.v _) hK
 rintro e s ⟨rfl, hP⟩
 (try dsimp only at h);refine qd (w_x Expr.rlen ?_);refine qf (qp ?_);obtain rfl := qa h;exact qt (fun _ => rfl) (xr (rs := #[.tmp 2]) TT) hP (.refl _) (.v _) hK
end Go.Proofs.Ytohmmfimedgccaa.E
end
section
namespace Go.Proofs.Ytohmmfimedgccaa.E
set_option linter.unusedVariables false
set_option linter.unusedSimpArgs false
set_option maxRecDepth 10000
abbrev So := qc
noncomputable def m_fs := B_check_finder_fail_in_check_solver
theorem s_fs : Sat_check_finder_fail_in_check_solver m_fs := W_check_finder_fail_in_check_solver
theorem v_fs (s : So) (a e : Int) : m_fs s a e = some ((), ⟨qqw s.finder a e, s.known⟩) := by
 unfold m_fs B_check_finder_fail_in_check_solver qqw;by_cases h : s.finder.e = 0 <;> simp [h]
noncomputable def ze := B_clock_Right
theorem zzX : Sat_clock_Right ze := W_clock_Right
noncomputable def Ye := B_clock_factor
theorem s_factor : Sat_clock_factor Ye := W_clock_factor
noncomputable def zX := B_clock_Apply ze Ye
theorem s_apply : Sat_clock_Apply zX := W_clock_Apply _ _ zzX s_factor
theorem t_factor (o : Op) : ∃ r, Ye o = some r ∧ (r = 0 ∨ r = 7 ∨ r = 12) ∧ (r = 0 → (o.kind = 3 → 1 ≤ o.n) ∧ (o.kind = 5 → 1 ≤ o.d)) := by
 unfold Ye B_clock_factor;by_cases h5 : o.kind = 5
 ·by_cases hd : o.d < 1 ∨ 100 < o.d
  ·refine ⟨7, ?_, by simp, fun h => by omega⟩;simp [h5, hd]
  ·by_cases hn : o.n < 0 ∨ 100 < o.n
   ·refine ⟨7, ?_, by simp, fun h => by omega⟩;simp [h5, hd, hn]
   ·refine ⟨0, ?_, by simp, fun h => ⟨by omega, by omega⟩⟩;simp [h5, hd, hn]
 ·by_cases h3 : o.kind = 3 ∨ o.kind = 4
  ·by_cases hn : o.n < 1 ∨ 100 < o.n
   ·refine ⟨7, ?_, by simp, fun h => by omega⟩;rcases h3 with h | h <;> simp [h, hn]
   ·refine ⟨0, ?_, by simp, fun h => ⟨by omega, by omega⟩⟩;rcases h3 with h | h <;> simp [h, hn]
  ·by_cases h6 : o.kind = 6 ∨ o.kind = 7 ∨ o.kind = 8
   ·refine ⟨0, ?_, by simp, fun h => ⟨by omega, by omega⟩⟩;rcases h6 with h | h | h <;> simp [h]
   ·refine ⟨12, ?_, by simp, fun h => by omega⟩;have : o.kind ≠ 3 := by omega
    have : o.kind ≠ 4 := by omega
    have : o.kind ≠ 6 := by omega
    have : o.kind ≠ 7 := by omega
    have : o.kind ≠ 8 := by omega
    simp [*]
theorem t_apply (c : Clock) (o : Op) : ∃ c' e, zX c o = some (c', e) ∧ (e = 0 ∨ e = 5 ∨ e = 7 ∨ e = 12) := by
 obtain ⟨r, h1, h2, h3⟩ := t_factor o;have hr : ∀ c, ∃ b, ze c = some b := fun c => ⟨_, rfl⟩;obtain ⟨b, hb⟩ := hr c;unfold zX B_clock_Apply;simp only [h1, hb, Option.bind_some];by_cases h0 : (if (!b) = true then (12 : Int) else r) = 0
 ·cases b with
  | false => simp at h0
  | true =>
   simp only [Bool.not_true, Bool.false_eq_true, if_false, Option.bind_some] at h0 ⊢;simp only [h0, decide_true, Bool.not_true, Bool.false_eq_true, if_false];have fin : ∀ (x : Bool) (d : Clock), ∃ c' e, ((if (!x) = true then some (.inl (⟨0, 0⟩, 5)) else (ze d).bind fun y51 => if (!y51) = true then some (.inl (⟨0, 0⟩, 7)) else some (.inr ⟨0, 0⟩) : Option ((Clock × Int) ⊕ Clock)).bind fun x => match x with
     | .inl r => some r
     | .inr v4_49 => some (d, (0 : Int))) = some (c', e) ∧ (e = 0 ∨ e = 5 ∨ e = 7 ∨ e = 12) := fun x d => by
    obtain ⟨b, hb⟩ := hr d;rw [hb];cases x <;> cases b
    ·exact ⟨_, _, rfl, by simp⟩
    ·exact ⟨_, _, rfl, by simp⟩
    ·exact ⟨_, _, rfl, by simp⟩
    ·exact ⟨_, _, rfl, by simp⟩
   by_cases k3 : o.kind = 3
   ·have := (h3 h0).1 k3;simp only [k3, decide_true, if_true, Jb, quoO, if_neg (show ¬ o.n = 0 by omega), Option.bind_some];exact fin _ _
   ·by_cases k4 : o.kind = 4
    ·simp only [k4, decide_true, if_true, Option.bind_some, Int.reduceEq, decide_false, Bool.false_eq_true, if_false];exact fin _ _
    ·by_cases k5 : o.kind = 5
     ·have := (h3 h0).2 k5;simp only [k5, decide_true, if_true, Jb, quoO, if_neg (show ¬ o.d = 0 by omega), Option.bind_some, Int.reduceEq, decide_false, Bool.false_eq_true, if_false];exact fin _ _
     ·by_cases k7 : o.kind = 7
      ·simp only [k7, decide_true, if_true, Option.bind_some, Int.reduceEq, decide_false, Bool.false_eq_true, if_false];exact fin _ _
      ·by_cases k8 : o.kind = 8
       ·simp only [k8, decide_true, if_true, Option.bind_some, Int.reduceEq, decide_false, Bool.false_eq_true, if_false];exact fin _ _
       ·simp only [decide_eq_false k3, decide_eq_false k4, decide_eq_false k5, decide_eq_false k7, decide_eq_false k8, Option.bind_some, Bool.false_eq_true, if_false];exact fin _ _
 ·cases b with
  | false => exact ⟨_, 12, rfl, by simp⟩
  | true =>
   simp only [Bool.not_true, Bool.false_eq_true, if_false, Option.bind_some] at h0 ⊢;simp only [decide_eq_false h0, Bool.not_false, if_true];exact ⟨_, _, rfl, by omega⟩
def bad (e : Int) : Prop := e = 5 ∨ e = 6 ∨ e = 7 ∨ e = 12
def St (f f' : Fi) : Prop := f' = f ∨ (f.e = 0 ∧ bad f'.e)
theorem bad.ne {e : Int} (h : bad e) : e ≠ 0 := by unfold bad at h; omega
theorem St.refl (f : Fi) : St f f := .inl rfl
theorem St.trans {f g h : Fi} (a : St f g) (b : St g h) : St f h := by
 rcases a with rfl | ⟨h1, h2⟩
 ·exact b
 ·rcases b with rfl | ⟨h3, _⟩
  ·exact .inr ⟨h1, h2⟩
  ·exact absurd h3 h2.ne
theorem St.fail {f : Fi} {a e : Int} (h : bad e) : St f (qqw f a e) := by
 unfold qqw;by_cases h0 : f.e = 0
 ·rw [if_pos h0]; exact .inr ⟨h0, h⟩
 ·rw [if_neg h0]; exact .inl rfl
theorem zzb {f : Fi} {a e : Int} (h : bad e) : (qqw f a e).e ≠ 0 := by
 unfold qqw;by_cases h0 : f.e = 0
 ·rw [if_pos h0]; exact h.ne
 ·rw [if_neg h0]; exact h0
theorem St.zero {f g : Fi} (a : St f g) (h : g.e = 0) : g = f := by
 rcases a with h1 | ⟨_, h2⟩
 ·exact h1
 ·exact absurd h h2.ne
def gdC (m : Mp Clock) (k : ByteArray) : Clock := (m.get k).getD ⟨0, 0⟩
def Kn (m : Mp Clock) (e : Expr) : Prop := ∀ y ∈ zC e, y.kind = 1 → (m.get y.name).isSome = true
theorem ZY {x y : Expr} : ∀ {l : List Expr}, x ∈ l → y ∈ zC x → y ∈ Zz l
 | a :: l, hx, hy => by
  rw [Zz, List.mem_append];rcases List.mem_cons.1 hx with rfl | hx
  ·exact .inl hy
  ·exact .inr (ZY hx hy)
theorem Kn.arg {m : Mp Clock} {e x : Expr} (h : Kn m e) (hx : x ∈ e.args) : Kn m x := fun y hy => h y (by
 rw [Qw];exact .tail _ (ZY hx hy))
theorem Kn.self {m : Mp Clock} {e : Expr} (h : Kn m e) (k : e.kind = 1) : (m.get e.name).isSome = true := h e (by rw [Qw]; exact .head _) k
inductive OfC (ρ : ByteArray → Clock) : Expr → Clock → Prop
 | nm {e : Expr} : e.kind = 1 → OfC ρ e (ρ e.name)
 | call {e a : Expr} {c : Clock} : e.kind = 2 → e.args[0]? = some a → OfC ρ a c → OfC ρ e c
 | op {e a : Expr} {c c' : Clock} : e.kind ≠ 1 → e.kind ≠ 2 → e.args[0]? = some a → OfC ρ a c → zX c ⟨e.kind, e.n, e.d⟩ = some (c', 0) → OfC ρ e c'
theorem OfC.det {ρ : ByteArray → Clock} {e : Expr} {c d : Clock} (h : OfC ρ e c) : OfC ρ e d → c = d := by
 induction h generalizing d with
 | nm k => intro h; cases h with
  | nm => rfl
  | call k2 => omega
  | op k2 => omega
 | call k ha _ ih => intro h; cases h with
  | nm k2 => omega
  | call k2 hb h => rw [ha] at hb; cases hb; exact ih h
  | op _ k2 => omega
 | op k k2 ha _ hap ih => intro h; cases h with
  | nm k3 => omega
  | call k3 => omega
  | op _ _ hb h hap' => rw [ha] at hb; cases hb; cases ih h; rw [hap] at hap'; cases hap'; rfl
inductive Told (S : ByteArray → Prop) : Expr → Prop
 | nm {e : Expr} : e.kind = 1 → S e.name → Told S e
 | call {e a : Expr} : e.kind = 2 → a ∈ e.args → Told S a → Told S e
 | op {e a : Expr} : e.kind ≠ 1 → e.kind ≠ 2 → e.args[0]? = some a → Told S a → Told S e
theorem Told.imp {S S' : ByteArray → Prop} {e : Expr} (h : Told S e) (hS : ∀ k, S k → S' k) : Told S' e := by
 induction h with
 | nm k hs => exact .nm k (hS _ hs)
 | call k hm _ ih => exact .call k hm ih
 | op k k2 hm _ ih => exact .op k k2 hm ih
structure PostOf (s : So) (e : Expr) (r : (Clock × Bool) × So) : Prop where
 known : r.2.known = s.known
 st : St s.finder r.2.finder
 leaf : e.kind = 1 → r = ((gdC s.known e.name, (s.known.get e.name).isSome), s)
 sound : r.2.finder.e = 0 → Kn s.known e → r.1.2 = true ∧ OfC (gdC s.known) e r.1.1
 full : s.finder.e = 0 → Kn s.known e → ∀ c, OfC (gdC s.known) e c → r = ((c, true), s)
 told : r.1.2 = true → Told (fun k => (s.known.get k).isSome = true) e
def pOf (x : So × Expr) (r : (Clock × Bool) × So) : Prop := Sp_check_solver_of x.1 x.2 r ∧ PostOf x.1 x.2 r
noncomputable def Yd (s : So) (e : Expr) : Option ((Clock × Bool) × So) := pick pOf (s, e)
theorem s_of : Sat_check_solver_of Yd := fun _ _ _ h => (Qt h).1
theorem t_of (e : Expr) : e.fit → ∀ s : So, ∃ r, Yd s e = some r ∧ PostOf s e r := by
 induction e using Expr.induct with
 | h e ih =>
  intro hf s;have hbig : (40 : Nat) ≤ maxLen := by unfold maxLen; decide
  suffices hB : ∃ r, B_check_solver_of Yd zX m_fs s e = some r ∧ PostOf s e r by
   obtain ⟨r, hr, hi⟩ := hB;obtain ⟨r', h1, h2, h3⟩ := QM (P := pOf) (a := (s, e)) ⟨r, W_check_solver_of _ _ _ s_of s_apply s_fs _ _ _ hr, hi⟩;exact ⟨r', h1, h3⟩
  unfold B_check_solver_of;rcases hf.kinds with ⟨k, ha⟩ | ⟨k, hl1, hl2⟩ | ⟨hl, hk⟩
  ·refine ⟨((gdC s.known e.name, (s.known.get e.name).isSome), s), ?_, rfl, St.refl _, fun _ => rfl, fun _ hk => ⟨hk.self k, .nm k⟩, fun h0 hk c hc => ?_, fun hb => .nm k hb⟩
   ·simp only [k, decide_true, if_true, Option.bind_some];rfl
   ·rw [(OfC.nm k).det hc, hk.self k]
  ·obtain ⟨r, h1, h2⟩ := qT (f := Qc e Yd) (fun i v => v.1 = (i : Int) ∧ v.2.1.known = s.known ∧ v.2.2.1 = s.known ∧ St s.finder v.2.1.finder ∧ (v.2.1.finder.e = 0 → Kn s.known e → i = 0) ∧ (s.finder.e = 0 → Kn s.known e → (∃ c, OfC (gdC s.known) e c) → i = 0 ∧ v.2.1.finder = s.finder)) e.args.length
    (fun r : ((Clock × Bool) × So) ⊕ (So × Mp Clock × Clock) => (∃ q, r = .inl q ∧ PostOf s e q) ∨ (∃ a b c, r = .inr (a, b, c) ∧ PostOf s e ((⟨0, 0⟩, false), ⟨a.finder, b⟩))) (fun i v hi hv => by
     obtain ⟨_, v0, v1, v2⟩ := v;obtain ⟨rfl, hk1, rfl, hst, hz, hz2⟩ := hv;simp only at hk1 hst hz hz2;unfold Qc;have hmem := List.getElem_mem hi;obtain ⟨⟨⟨c, b⟩, s'⟩, h3, h4⟩ := ih _ hmem (hf.arg _ hmem) ⟨v0.finder, s.known⟩;obtain ⟨p1, p2, p3, p4, p5, p6⟩ := h4;simp only at p1 p2 p4 p5;have hfst : i = 0 → e.args[0]? = some e.args[i] := fun h => by subst h; simp [hi]
     simp only [dlt hi, if_true, qx hi, Option.bind_some, h3];cases b with
     | true =>
      refine .inr ⟨_, rfl, .inl ⟨_, rfl, p1, hst.trans p2, fun h => by omega, fun h0 hk => ?_, fun h0 hk d hd => ?_, fun _ => .call k hmem (p6 rfl)⟩⟩
      ·simp only at h0;have hv0 : v0.finder.e = 0 := by rw [← p2.zero h0]; exact h0
       have hi0 := hz hv0 hk;exact ⟨rfl, .call k (hfst hi0) (p4 h0 (hk.arg hmem)).2⟩
      ·obtain ⟨hi0, hf0⟩ := hz2 h0 hk ⟨d, hd⟩;cases hd with
       | nm => omega
       | op _ k2 => omega
       | call _ hb hd =>
        rw [hfst hi0] at hb;cases hb;have := p5 (by rw [hf0]; exact h0) (hk.arg hmem) _ hd;simp only [Prod.mk.injEq] at this;obtain ⟨⟨rfl, -⟩, rfl⟩ := this;simp [hf0]
     | false =>
      refine .inl ⟨_, rfl, zA hi (by omega), p1, p1, hst.trans p2, fun h0 hk => ?_, fun h0 hk hd => ?_⟩
      ·simp only at h0;have := (p4 h0 (hk.arg hmem)).1;cases this
      ·obtain ⟨hi0, hf0⟩ := hz2 h0 hk hd;obtain ⟨d, hd⟩ := hd;cases hd with
       | nm => omega
       | op _ k2 => omega
       | call _ hb hd =>
        rw [hfst hi0] at hb;cases hb;have := p5 (by rw [hf0]; exact h0) (hk.arg hmem) _ hd;simp at this) (fun v hv => by
     obtain ⟨_, v0, v1, v2⟩ := v;obtain ⟨rfl, hk1, rfl, hst, hz, hz2⟩ := hv;simp only at hk1 hst hz hz2;unfold Qc;simp only [dge, Bool.false_eq_true, if_false];refine ⟨_, rfl, .inr ⟨_, _, _, rfl, rfl, hst, fun h => by omega, fun h0 hk => ?_, fun h0 hk d hd => ?_, fun h => by cases h⟩⟩
     ·have := hz h0 hk; omega
     ·have := (hz2 h0 hk ⟨d, hd⟩).1; omega) (v0 := ((0 : Int), s, s.known, (⟨0, 0⟩ : Clock))) ⟨rfl, rfl, rfl, St.refl _, fun _ _ => rfl, fun _ _ _ => ⟨rfl, rfl⟩⟩
   simp only [k, decide_true, if_true, Option.bind_some, Int.reduceEq, decide_false, Bool.false_eq_true, if_false];have h1' : qy (Qc e Yd) ((0 : Int), ({ finder := s.finder, known := s.known } : So), s.known, (⟨0, 0⟩ : Clock)) = some r := h1;rw [h1'];rcases h2 with ⟨q, rfl, hq⟩ | ⟨a, b, c, rfl, hq⟩
   ·exact ⟨q, rfl, hq⟩
   ·exact ⟨_, rfl, hq⟩
  ·have k1 : e.kind ≠ 1 := by omega
   have k2 : e.kind ≠ 2 := by omega
   have h0' : 0 < e.args.length := by omega
   have hmem := List.getElem_mem h0';have hfst : e.args[0]? = some e.args[0] := by simp [h0']
   have hget : qC e.args (0 : Int) = some e.args[0] := qx (i := 0) h0';obtain ⟨⟨⟨c, b⟩, s'⟩, h3, h4⟩ := ih _ hmem (hf.arg _ hmem) ⟨s.finder, s.known⟩;obtain ⟨p1, p2, p3, p4, p5, p6⟩ := h4;simp only at p1 p2 p4 p5;simp only [decide_eq_false k1, decide_eq_false k2, Bool.false_eq_true, if_false, Option.bind_some, hget, h3];by_cases hg : b = true ∧ s'.finder.e = 0
   ·obtain ⟨rfl, hg⟩ := hg;obtain ⟨c', er, h5, h6⟩ := t_apply c ⟨e.kind, e.n, e.d⟩;simp only [hg, decide_true, Bool.not_true, Bool.or_self, Bool.false_eq_true, if_false, h5, Option.bind_some];by_cases he : er = 0
    ·subst he;simp only [decide_true, Bool.not_true, Bool.false_eq_true, if_false];refine ⟨_, rfl, p1, p2, fun h => by omega, fun h0 hk => ⟨rfl, .op k1 k2 hfst (p4 h0 (hk.arg hmem)).2 h5⟩, fun h0 hk d hd => ?_, fun _ => .op k1 k2 hfst (p6 rfl)⟩;cases hd with
     | nm => omega
     | call => omega
     | op _ _ hb hd hap =>
      rw [hfst] at hb;cases hb;have := p5 h0 (hk.arg hmem) _ hd;simp only [Prod.mk.injEq] at this;obtain ⟨⟨rfl, -⟩, rfl⟩ := this;rw [h5] at hap;cases hap;rfl
    ·simp only [decide_eq_false he, Bool.not_false, if_true, v_fs, Option.bind_some];have hb : bad er := by unfold bad; omega
     refine ⟨_, rfl, p1, p2.trans (St.fail hb), fun h => by omega, fun h0 hk => absurd h0 (zzb hb), fun h0 hk d hd => ?_, fun h => by cases h⟩;cases hd with
     | nm => omega
     | call => omega
     | op _ _ hb hd hap =>
      rw [hfst] at hb;cases hb;have := p5 h0 (hk.arg hmem) _ hd;simp only [Prod.mk.injEq] at this;obtain ⟨⟨rfl, -⟩, rfl⟩ := this;rw [h5] at hap;cases hap;exact absurd rfl he
   ·have : ((!b) || !decide (s'.finder.e = 0)) = true := by
     cases b with
     | false => rfl
     | true => simpa using hg
    simp only [this, if_true];refine ⟨_, rfl, p1, p2, fun h => by omega, fun h0 hk => absurd ⟨(p4 h0 (hk.arg hmem)).1, h0⟩ hg, fun h0 hk d hd => ?_, fun h => by cases h⟩;cases hd with
    | nm => omega
    | call => omega
    | op _ _ hb hd hap =>
     rw [hfst] at hb;cases hb;have := p5 h0 (hk.arg hmem) _ hd;simp only [Prod.mk.injEq] at this;obtain ⟨⟨rfl, rfl⟩, rfl⟩ := this;exact absurd ⟨rfl, h0⟩ hg
inductive RefC (ρ : ByteArray → Clock) : Expr → Clock → Prop
 | nm {e : Expr} : e.kind = 1 → RefC ρ e (ρ e.name)
 | call {e : Expr} {c : Clock} : e.kind = 2 → e.args ≠ [] → (∀ a ∈ e.args, RefC ρ a c) → RefC ρ e c
 | op {e a : Expr} {c c' : Clock} : e.kind ≠ 1 → e.kind ≠ 2 → e.args[0]? = some a → RefC ρ a c → zX c ⟨e.kind, e.n, e.d⟩ = some (c', 0) → RefC ρ e c'
theorem RefC.of {ρ : ByteArray → Clock} {e : Expr} {c : Clock} (h : RefC ρ e c) : OfC ρ e c := by
 induction h with
 | nm k => exact .nm k
 | @call e c k ha _ ih =>
  cases hx : e.args with
  | nil => exact absurd hx ha
  | cons a l => exact .call k (by simp [hx]) (ih a (by simp [hx]))
 | op k k2 ha _ hap ih => exact .op k k2 ha ih hap
theorem OfC.congr {ρ ρ' : ByteArray → Clock} {e : Expr} {c : Clock} (h : OfC ρ e c) : (∀ y ∈ zC e, y.kind = 1 → ρ y.name = ρ' y.name) → OfC ρ' e c := by
 induction h with
 | @nm e k => intro h; rw [h e (by rw [Qw]; exact .head _) k]; exact .nm k
 | call k ha _ ih => intro h; exact .call k ha (ih fun y hy => h y (by rw [Qw]; exact .tail _ (ZY (List.mem_of_getElem? ha) hy)))
 | op k k2 ha _ hap ih => intro h; exact .op k k2 ha (ih fun y hy => h y (by rw [Qw]; exact .tail _ (ZY (List.mem_of_getElem? ha) hy))) hap
theorem subL_tail {α : Type} {l : List α} (h : 1 ≤ l.length) : subL l (1 : Int) ((l.length : Nat) : Int) = some (l.drop 1) := by
 unfold subL;rw [if_pos ⟨by omega, by omega, by omega⟩];simp
structure PostCa (s : So) (e : Expr) (r : Unit × So) : Prop where
 known : r.2.known = s.known
 st : St s.finder r.2.finder
 sound : r.2.finder.e = 0 → Kn s.known e → ∀ c, OfC (gdC s.known) e c → RefC (gdC s.known) e c
 full : s.finder.e = 0 → Kn s.known e → (∃ c, RefC (gdC s.known) e c) → r.2 = s
def pCa (x : So × Expr) (r : Unit × So) : Prop := Sp_check_solver_calls x.1 x.2 r ∧ PostCa x.1 x.2 r
noncomputable def YY (s : So) (e : Expr) : Option (Unit × So) := pick pCa (s, e)
theorem s_calls : Sat_check_solver_calls YY := fun _ _ _ h => (Qt h).1
theorem RefC.arg {ρ : ByteArray → Clock} {e a : Expr} (h : ∃ c, RefC ρ e c) (ha : e.kind ≠ 1) (hl : e.kind = 2 ∨ e.args.length = 1) (hm : a ∈ e.args) : ∃ c, RefC ρ a c := by
 obtain ⟨c, h⟩ := h;cases h with
 | nm k => exact absurd k ha
 | call _ _ h => exact ⟨_, h a hm⟩
 | op _ k2 hb h =>
  rcases hl with hl | hl
  ·exact absurd hl k2
  ·cases hx : e.args with
   | nil => rw [hx] at hl; cases hl
   | cons x l =>
    rw [hx] at hl hm hb;have : l = [] := by simpa using hl
    subst this;simp at hb hm;subst hb; subst hm;exact ⟨_, h⟩
theorem t_calls (e : Expr) : e.fit → ∀ s : So, ∃ r, YY s e = some r ∧ PostCa s e r := by
 induction e using Expr.induct with
 | h e ih =>
  intro hf s;have hbig : (40 : Nat) ≤ maxLen := by unfold maxLen; decide
  suffices hB : ∃ r, B_check_solver_calls YY Yd m_fs s e = some r ∧ PostCa s e r by
   obtain ⟨r, hr, hi⟩ := hB;obtain ⟨r', h1, h2, h3⟩ := QM (P := pCa) (a := (s, e)) ⟨r, W_check_solver_calls _ _ _ s_calls s_of s_fs _ _ _ hr, hi⟩;exact ⟨r', h1, h3⟩
  have hlen : e.args.length ≤ 6 := by
   rcases hf.kinds with ⟨k, ha⟩ | ⟨k, hl1, hl2⟩ | ⟨hl, hk⟩
   ·rw [ha]; simp
   ·exact hl2
   ·omega
  -- the arguments agree
  have hA : ∃ a : So × Mp Clock, (if (decide (e.kind = (2 : Int))) then
    (qC e.args (0 : Int)).bind fun y6 =>
    (Yd (qc.mk s.finder s.known) y6).bind fun y8 =>
    (subL e.args (1 : Int) ((List.length e.args : Nat) : Int)).bind fun y11 =>
    (qy (zI y11 y8 e m_fs Yd) ((0 : Int), (qc.mk y8.2.finder y8.2.known), y8.2.known) : Option (So × (Mp Clock))).bind fun (vs_16, v0_2_17) =>
    some ((qc.mk vs_16.finder v0_2_17), v0_2_17)
   else
    some ((qc.mk s.finder s.known), s.known) : Option (So × (Mp Clock))) = some a ∧ a.2 = s.known ∧ St s.finder a.1.finder ∧ (a.1.finder.e = 0 → Kn s.known e → e.kind = 2 → ∃ c, ∀ x ∈ e.args, OfC (gdC s.known) x c) ∧ (s.finder.e = 0 → Kn s.known e → (∃ c, RefC (gdC s.known) e c) → a.1.finder = s.finder) := by
   by_cases k : e.kind = 2
   ·have hl1 : 1 ≤ e.args.length := by
     rcases hf.kinds with ⟨k', ha⟩ | ⟨k', hl1, hl2⟩ | ⟨hl, hk⟩ <;> omega
    have h0' : 0 < e.args.length := by omega
    have hmem0 := List.getElem_mem h0';have hget : qC e.args (0 : Int) = some e.args[0] := qx (i := 0) h0';obtain ⟨⟨⟨c, b⟩, s1⟩, h3, h4⟩ := t_of _ (hf.arg _ hmem0) ⟨s.finder, s.known⟩;obtain ⟨p1, p2, p3, p4, p5, -⟩ := h4;simp only at p1 p2 p4 p5;have hdl : (e.args.drop 1).length = e.args.length - 1 := by simp
    obtain ⟨r, h1, h2⟩ := qT (f := zI (e.args.drop 1) ((c, b), s1) e m_fs Yd) (fun i v => v.1 = (i : Int) ∧ v.2.2 = s.known ∧ St s.finder v.2.1.finder ∧ St s1.finder v.2.1.finder ∧ (v.2.1.finder.e = 0 → Kn s.known e → ∀ j, j ≤ i → ∀ x, e.args[j]? = some x → OfC (gdC s.known) x c) ∧ (s.finder.e = 0 → Kn s.known e → (∃ c, RefC (gdC s.known) e c) → v.2.1.finder = s.finder)) (e.args.drop 1).length
     (fun r : So × Mp Clock => r.2 = s.known ∧ St s.finder r.1.finder ∧ (r.1.finder.e = 0 → Kn s.known e → ∀ j, j < e.args.length → ∀ x, e.args[j]? = some x → OfC (gdC s.known) x c) ∧ (s.finder.e = 0 → Kn s.known e → (∃ c, RefC (gdC s.known) e c) → r.1.finder = s.finder)) (fun i v hi hv => by
      obtain ⟨_, v0, v1⟩ := v;obtain ⟨rfl, rfl, hst, hst1, hz, hz2⟩ := hv;simp only at hst hst1 hz hz2;unfold zI;have hi1 : i + 1 < e.args.length := by omega
      have hd : (e.args.drop 1)[i] = e.args[i + 1] := by simp [Nat.add_comm]
      have hmem := List.getElem_mem hi1;obtain ⟨⟨⟨d, b'⟩, s'⟩, h5, h6⟩ := t_of _ (hf.arg _ hmem) ⟨v0.finder, s.known⟩;obtain ⟨q1, q2, q3, q4, q5, -⟩ := h6;simp only at q1 q2 q4 q5;simp only [dlt hi, if_true, qx hi, hd, Option.bind_some, h5];have hstay : s.finder.e = 0 → Kn s.known e → (∃ c, RefC (gdC s.known) e c) → ((d, b'), s') = ((c, true), (⟨v0.finder, s.known⟩ : So)) ∧ v0.finder = s.finder := fun h0 hk hr => by
       have h7 := hz2 h0 hk hr;obtain ⟨c0, hr⟩ := hr;cases hr with
       | nm k1 => omega
       | op _ k2 => exact absurd k k2
       | call _ _ hr =>
        have e1 := p5 h0 (hk.arg hmem0) _ (hr _ hmem0).of;have e2 := q5 (by rw [h7]; exact h0) (hk.arg hmem) _ (hr _ hmem).of;simp only [Prod.mk.injEq] at e1;obtain ⟨⟨rfl, -⟩, -⟩ := e1;exact ⟨e2, h7⟩
      by_cases hc : b' = true ∧ d ≠ c
      ·have hcond : (b' && !(decide (d.period = c.period) && decide (d.phase = c.phase))) = true := by
        obtain ⟨rfl, hne⟩ := hc;simp only [Bool.true_and, Bool.not_eq_true', ← Bool.decide_and, decide_eq_false_iff_not];intro ⟨h7, h8⟩;exact hne (by cases d; cases c; simp_all)
       simp only [hcond, if_true, v_fs, Option.bind_some];have hbad : bad 5 := .inl rfl;refine .inl ⟨_, rfl, zA hi (by omega), q1, hst.trans (q2.trans (St.fail hbad)), hst1.trans (q2.trans (St.fail hbad)), fun h0 _ => absurd h0 (zzb hbad), fun h0 hk hr => ?_⟩;have := (hstay h0 hk hr).1;simp only [Prod.mk.injEq] at this;exact absurd this.1.1 hc.2
      ·have hcond : (b' && !(decide (d.period = c.period) && decide (d.phase = c.phase))) = false := by
        cases b' with
        | false => rfl
        | true =>
         have : d = c := Classical.not_not.1 fun h => hc ⟨rfl, h⟩;subst this;simp
       simp only [hcond, Bool.false_eq_true, if_false, Option.bind_some];refine .inl ⟨_, rfl, zA hi (by omega), q1, hst.trans q2, hst1.trans q2, fun h0 hk j hj x hx => ?_, fun h0 hk hr => ?_⟩
       ·simp only at h0;by_cases hji : j ≤ i
        ·exact hz (by rw [← q2.zero h0]; exact h0) hk j hji x hx
        ·obtain rfl : j = i + 1 := by omega
         rw [List.getElem?_eq_getElem hi1] at hx;injection hx with hx;subst hx;obtain ⟨hb, ho⟩ := q4 h0 (hk.arg hmem);have : d = c := Classical.not_not.1 fun h => hc ⟨hb, h⟩;subst this;exact ho
       ·obtain ⟨h7, h8⟩ := hstay h0 hk hr;simp only [Prod.mk.injEq] at h7;obtain ⟨_, rfl⟩ := h7;exact h8) (fun v hv => by
      obtain ⟨_, v0, v1⟩ := v;obtain ⟨rfl, rfl, hst, hst1, hz, hz2⟩ := hv;simp only at hst hst1 hz hz2;unfold zI;simp only [dge, Bool.false_eq_true, if_false];exact ⟨_, rfl, rfl, hst, fun h0 hk j hj => hz h0 hk j (by omega), hz2⟩) (v0 := ((0 : Int), (⟨s1.finder, s1.known⟩ : So), s1.known)) ⟨rfl, p1, p2, St.refl _, fun h0 hk j hj x hx => by
       simp only at h0;obtain rfl : j = 0 := by omega
       rw [List.getElem?_eq_getElem h0'] at hx;injection hx with hx;subst hx;exact (p4 h0 (hk.arg hmem0)).2, fun h0 hk ⟨c0, hr⟩ => by
       cases hr with
       | nm k1 => omega
       | op _ k2 => exact absurd k k2
       | call _ _ hr =>
        have e1 := p5 h0 (hk.arg hmem0) _ (hr _ hmem0).of;simp only [Prod.mk.injEq] at e1;obtain ⟨_, rfl⟩ := e1;rfl⟩
    simp only [k, decide_true, if_true, hget, h3, subL_tail hl1, Option.bind_some];rw [h1];obtain ⟨g1, g2, g3, g4⟩ := h2;refine ⟨_, rfl, g1, g2, fun h0 hk _ => ⟨c, fun x hx => ?_⟩, g4⟩;obtain ⟨j, hj⟩ := List.getElem?_of_mem hx;exact g3 h0 hk j (List.getElem?_eq_some_iff.1 hj).1 x hj
   ·simp only [decide_eq_false k, Bool.false_eq_true, if_false];exact ⟨_, rfl, rfl, St.refl _, fun _ _ k2 => absurd k2 k, fun _ _ _ => rfl⟩
  obtain ⟨⟨a1, a2⟩, hA1, rfl, hA3, hA4, hA5⟩ := hA;obtain ⟨r, h1, h2⟩ := qT (f := Qd e YY) (fun i v => v.1 = (i : Int) ∧ v.2.2 = s.known ∧ St a1.finder v.2.1.finder ∧ (v.2.1.finder.e = 0 → Kn s.known e → ∀ j, j < i → ∀ x, e.args[j]? = some x → ∀ c, OfC (gdC s.known) x c → RefC (gdC s.known) x c) ∧ (s.finder.e = 0 → Kn s.known e → (∃ c, RefC (gdC s.known) e c) → v.2.1.finder = s.finder)) e.args.length
   (fun r : So × Mp Clock => r.2 = s.known ∧ St a1.finder r.1.finder ∧ (r.1.finder.e = 0 → Kn s.known e → ∀ j, j < e.args.length → ∀ x, e.args[j]? = some x → ∀ c, OfC (gdC s.known) x c → RefC (gdC s.known) x c) ∧ (s.finder.e = 0 → Kn s.known e → (∃ c, RefC (gdC s.known) e c) → r.1.finder = s.finder)) (fun i v hi hv => by
    obtain ⟨_, v0, v1⟩ := v;obtain ⟨rfl, rfl, hst, hz, hz2⟩ := hv;simp only at hst hz hz2;unfold Qd;have hmem := List.getElem_mem hi;obtain ⟨⟨u, s'⟩, h5, q1, q2, q3, q4⟩ := ih _ hmem (hf.arg _ hmem) ⟨v0.finder, s.known⟩;simp only at q1 q2 q3 q4;simp only [dlt hi, if_true, qx hi, Option.bind_some, h5];refine .inl ⟨_, rfl, zA hi (by omega), q1, hst.trans q2, fun h0 hk j hj x hx => ?_, fun h0 hk hr => ?_⟩
    ·simp only at h0;by_cases hji : j < i
     ·exact hz (by rw [← q2.zero h0]; exact h0) hk j hji x hx
     ·obtain rfl : j = i := by omega
      rw [List.getElem?_eq_getElem hi] at hx;injection hx with hx;subst hx;exact q3 h0 (hk.arg hmem)
    ·have h7 := hz2 h0 hk hr;have hk1 : e.kind ≠ 1 := fun h => by
      rcases hf.kinds with ⟨_, ha⟩ | ⟨k', _⟩ | ⟨hl, hk⟩
      ·rw [ha] at hi; cases hi
      ·omega
      ·omega
     have hk2 : e.kind = 2 ∨ e.args.length = 1 := by
      rcases hf.kinds with ⟨_, ha⟩ | ⟨k', _⟩ | ⟨hl, hk⟩
      ·rw [ha] at hi; cases hi
      ·exact .inl k'
      ·exact .inr hl
     have := q4 (by rw [h7]; exact h0) (hk.arg hmem) (RefC.arg hr hk1 hk2 hmem);subst this;exact h7) (fun v hv => by
    obtain ⟨_, v0, v1⟩ := v;obtain ⟨rfl, rfl, hst, hz, hz2⟩ := hv;simp only at hst hz hz2;unfold Qd;simp only [dge, Bool.false_eq_true, if_false];exact ⟨_, rfl, rfl, hst, hz, hz2⟩) (v0 := ((0 : Int), (⟨a1.finder, s.known⟩ : So), s.known)) ⟨rfl, rfl, St.refl _, fun _ _ j hj => by omega, hA5⟩
  unfold B_check_solver_calls;rw [hA1];simp only [Option.bind_some];rw [h1];obtain ⟨g1, g2, g3, g4⟩ := h2;refine ⟨_, rfl, g1, hA3.trans g2, fun h0 hk c hc => ?_, fun h0 hk hr => ?_⟩
  ·simp only at h0;have hall : ∀ x ∈ e.args, ∀ c, OfC (gdC s.known) x c → RefC (gdC s.known) x c := fun x hx => by
    obtain ⟨j, hj⟩ := List.getElem?_of_mem hx;exact g3 h0 hk j (List.getElem?_eq_some_iff.1 hj).1 x hj
   cases hc with
   | nm k => exact .nm k
   | op k k2 ha hc hap => exact .op k k2 ha (hall _ (List.mem_of_getElem? ha) _ hc) hap
   | call k ha hc =>
    obtain ⟨d, hd⟩ := hA4 (by rw [← g2.zero h0]; exact h0) hk k;have hm := List.mem_of_getElem? ha;cases hc.det (hd _ hm);exact .call k (fun h => by rw [h] at hm; cases hm) fun x hx => hall x hx _ (hd x hx)
  ·have := g4 h0 hk hr;simp only [g1, this]
end Go.Proofs.Ytohmmfimedgccaa.E
end
section
namespace Go.Proofs.Ytohmmfimedgccaa.E
set_option maxRecDepth 100000
set_option maxHeartbeats 4000000
set_option linter.unusedVariables false
set_option linter.unusedSimpArgs false
noncomputable def ZI (a0 : Program) (a1 : ByteArray) : Int → Option (Int ⊕ (Int ⊕ Unit))
 | v3 =>
  if (decide (v3 < ((List.length a0.nodes : Nat) : Int))) then
   ((qC a0.nodes v3).bind fun y9 =>
   if (decide (y9.name = a1)) then
    some (.inl v3)
   else
    some (.inr ()) : Option (Int ⊕ Unit)).bind fun x => match x with
   | .inl r => some (.inr (.inl r))
   | .inr _ =>
    some (.inl (IntKind.i64.wrap (v3 + (1 : Int))))
  else
   some (.inr (.inr ()))
noncomputable def B_ref06_Node (a0 : Program) (a1 : ByteArray) : Option Int :=
 (qy (ZI a0 a1) (0 : Int) : Option (Int ⊕ Unit)).bind fun x => match x with
 | .inl r => some r
 | .inr _ =>
  some (-1 : Int)
theorem W_ref06_Node : Sat_ref06_Node (B_ref06_Node) := by
 intro a0 a1 r h σ K hK;refine qW Try.func23 rfl rfl (by kernel_rfl) ?_;unfold B_ref06_Node at h;have hP := Pre.refl σ;have E0 : qz [(.ag (Program.cl a0)), (.v (.string a1))] 0 = (.ag (Program.cl a0)) := rfl;have E1 : qz [(.ag (Program.cl a0)), (.v (.string a1))] 1 = (.v (.string a1)) := rfl;have TT := Yl Expr.rlen Node.cle Program.cle T_2 T_22 T_23 T_24 T_25 T_27 T_3 T_39 T_9 T_97 T_99;refine qk (fun e s => ∃ i2 : Nat, Bx σ s i2 27 (Program.cl a0) ∧ eT e 1 a1 ∧ eP e 2 i2 ∧ Pre σ s) ?_ ?_
 ·refine w_x (cj2 E0 TT) ?_;exact qe ⟨σ.length, (Bx.new hP _ _), E1, (xv (cj2 E0 TT)), (hP.app _)⟩
 rintro e s ⟨i2, X2, E1, E2, hP⟩
 refine ql (qd (w_x Expr.rlen ?_));refine qf ?_;obtain ⟨x1, h2, h⟩ := qb h;refine qk (fun e s => .inr () = x1 ∧ Pre σ s) ?_ ?_
 ·refine qn (qH h2 (fun v e s => ∃ v3, v3 = v ∧ Bx σ s i2 27 (Program.cl a0) ∧ eT e 1 a1 ∧ eP e 2 i2 ∧ eI e 5 v3 ∧ Pre σ s) ⟨_, WkE.refl _, _, rfl, X2, E1, E2, (xv TT), hP⟩ ?_)
  rintro v x4 e s hf5 ⟨v3, rfl, X2, E1, E2, E5, hP⟩
  unfold ZI at hf5;(try dsimp only at hf5);refine ql (qd (w_x (cj4 E2 E5 X2.get TT) ?_));refine qf (qd ?_);rcases qi hf5 with ⟨hb6, hf5⟩ | ⟨hb6, hf5⟩
  ·refine xt hb6 (qm (qf ?_));obtain ⟨x7, h8, hf5⟩ := qb hf5;refine qk (fun e s => .inr () = x7 ∧ Bx σ s i2 27 (Program.cl a0) ∧ eT e 1 a1 ∧ eP e 2 i2 ∧ eI e 5 v3 ∧ Pre σ s) ?_ ?_
   ·refine qn (qd ?_);obtain ⟨y9, h10, h8⟩ := qb h8;have R11 := qA (f := Node.cl) (qg h10).2;refine w_x (cj7 E1 E2 E5 X2.get R11 (qg h10).1 TT) ?_;refine qf ?_;rcases qi h8 with ⟨hb12, h8⟩ | ⟨hb12, h8⟩
    ·refine xt hb12 (qd (w_x (cj2 E5 TT) ?_));refine qf (qp (qw ?_));obtain rfl := qa h8;refine qB ?_;(try dsimp only at hf5);obtain rfl := qa hf5;refine zv rfl fun hr13 => ?_;obtain rfl := hr13;refine qw (qB ?_);(try dsimp only at h);obtain rfl := qa h;exact qt (fun _ => rfl) (xr (rs := #[.tmp 4]) TT) hP (.refl _) (.v _) hK
    ·refine xf hb12 (qm (qQ ?_));obtain rfl := qa h8;exact qe ⟨rfl, X2, E1, E2, E5, hP⟩
   rintro e s ⟨rfl, X2, E1, E2, E5, hP⟩
   (try dsimp only at hf5);refine w_x (cj2 E5 TT) ?_;obtain rfl := qa hf5;exact qZ rfl ⟨_, rfl, X2, E1, E2, (xv (cj2 E5 TT)), hP⟩
  ·refine xf hb6 (qE (qM ?_));obtain rfl := qa hf5;refine qY rfl fun hr14 => ?_;obtain rfl := hr14;exact qK (qe ⟨rfl, hP⟩)
 rintro e s ⟨rfl, hP⟩
 (try dsimp only at h);refine qd (w_x Expr.rlen ?_);refine qf (qp ?_);obtain rfl := qa h;exact qt (fun _ => rfl) (xr (rs := #[.tmp 4]) TT) hP (.refl _) (.v _) hK
noncomputable def ZJ (a0 : Program) (a1 : ByteArray) : Int → Option (Int ⊕ (Int ⊕ Unit))
 | v17 =>
  if (decide (v17 < ((List.length a0.flows : Nat) : Int))) then
   ((qC a0.flows v17).bind fun y23 =>
   if (decide (y23.name = a1)) then
    some (.inl (IntKind.i64.wrap (((List.length a0.inputs : Nat) : Int) + v17)))
   else
    some (.inr ()) : Option (Int ⊕ Unit)).bind fun x => match x with
   | .inl r => some (.inr (.inl r))
   | .inr _ =>
    some (.inl (IntKind.i64.wrap (v17 + (1 : Int))))
  else
   some (.inr (.inr ()))
noncomputable def ZK (a0 : Program) (a1 : ByteArray) : Int → Option (Int ⊕ (Int ⊕ Unit))
 | v3 =>
  if (decide (v3 < ((List.length a0.inputs : Nat) : Int))) then
   ((qC a0.inputs v3).bind fun y9 =>
   if (decide (y9.name = a1)) then
    some (.inl v3)
   else
    some (.inr ()) : Option (Int ⊕ Unit)).bind fun x => match x with
   | .inl r => some (.inr (.inl r))
   | .inr _ =>
    some (.inl (IntKind.i64.wrap (v3 + (1 : Int))))
  else
   some (.inr (.inr ()))
noncomputable def B_ref06_Flow (a0 : Program) (a1 : ByteArray) : Option Int :=
 (qy (ZK a0 a1) (0 : Int) : Option (Int ⊕ Unit)).bind fun x => match x with
 | .inl r => some r
 | .inr _ =>
  (qy (ZJ a0 a1) (0 : Int) : Option (Int ⊕ Unit)).bind fun x => match x with
  | .inl r => some r
  | .inr _ =>
   some (-1 : Int)
theorem W_ref06_Flow : Sat_ref06_Flow (B_ref06_Flow) := by
 intro a0 a1 r h σ K hK;refine qW Try.func25 rfl rfl (by kernel_rfl) ?_;unfold B_ref06_Flow at h;have hP := Pre.refl σ;have E0 : qz [(.ag (Program.cl a0)), (.v (.string a1))] 0 = (.ag (Program.cl a0)) := rfl;have E1 : qz [(.ag (Program.cl a0)), (.v (.string a1))] 1 = (.v (.string a1)) := rfl;have TT := cj15 Expr.rlen Flow.cle Input.cle Program.cle T_2 T_22 T_23 T_24 T_25 T_27 T_3 T_39 T_41 T_9 T_96;refine qk (fun e s => ∃ i2 : Nat, Bx σ s i2 27 (Program.cl a0) ∧ eT e 1 a1 ∧ eP e 2 i2 ∧ Pre σ s) ?_ ?_
 ·refine w_x (cj2 E0 TT) ?_;exact qe ⟨σ.length, (Bx.new hP _ _), E1, (xv (cj2 E0 TT)), (hP.app _)⟩
 rintro e s ⟨i2, X2, E1, E2, hP⟩
 refine ql (qd (w_x Expr.rlen ?_));refine qf ?_;obtain ⟨x1, h2, h⟩ := qb h;refine qk (fun e s => .inr () = x1 ∧ Bx σ s i2 27 (Program.cl a0) ∧ eT e 1 a1 ∧ eP e 2 i2 ∧ Pre σ s) ?_ ?_
 ·refine qn (qH h2 (fun v e s => ∃ v3, v3 = v ∧ Bx σ s i2 27 (Program.cl a0) ∧ eT e 1 a1 ∧ eP e 2 i2 ∧ eI e 5 v3 ∧ Pre σ s) ⟨_, WkE.refl _, _, rfl, X2, E1, E2, (xv TT), hP⟩ ?_)
  rintro v x4 e s hf5 ⟨v3, rfl, X2, E1, E2, E5, hP⟩
  unfold ZK at hf5;(try dsimp only at hf5);refine ql (qd (w_x (cj4 E2 E5 X2.get TT) ?_));refine qf (qd ?_);rcases qi hf5 with ⟨hb6, hf5⟩ | ⟨hb6, hf5⟩
  ·refine xt hb6 (qm (qf ?_));obtain ⟨x7, h8, hf5⟩ := qb hf5;refine qk (fun e s => .inr () = x7 ∧ Bx σ s i2 27 (Program.cl a0) ∧ eT e 1 a1 ∧ eP e 2 i2 ∧ eI e 5 v3 ∧ Pre σ s) ?_ ?_
   ·refine qn (qd ?_);obtain ⟨y9, h10, h8⟩ := qb h8;have R11 := qA (f := Input.cl) (qg h10).2;refine w_x (cj7 E1 E2 E5 X2.get R11 (qg h10).1 TT) ?_;refine qf ?_;rcases qi h8 with ⟨hb12, h8⟩ | ⟨hb12, h8⟩
    ·refine xt hb12 (qd (w_x (cj2 E5 TT) ?_));refine qf (qp (qw ?_));obtain rfl := qa h8;refine qB ?_;(try dsimp only at hf5);obtain rfl := qa hf5;refine zv rfl fun hr13 => ?_;obtain rfl := hr13;refine qw (qB ?_);(try dsimp only at h);obtain rfl := qa h;exact qt (fun _ => rfl) (xr (rs := #[.tmp 4]) TT) hP (.refl _) (.v _) hK
    ·refine xf hb12 (qm (qQ ?_));obtain rfl := qa h8;exact qe ⟨rfl, X2, E1, E2, E5, hP⟩
   rintro e s ⟨rfl, X2, E1, E2, E5, hP⟩
   (try dsimp only at hf5);refine w_x (cj2 E5 TT) ?_;obtain rfl := qa hf5;exact qZ rfl ⟨_, rfl, X2, E1, E2, (xv (cj2 E5 TT)), hP⟩
  ·refine xf hb6 (qE (qM ?_));obtain rfl := qa hf5;refine qY rfl fun hr14 => ?_;obtain rfl := hr14;exact qK (qe ⟨rfl, X2, E1, E2, hP⟩)
 rintro e s ⟨rfl, X2, E1, E2, hP⟩
 (try dsimp only at h);refine ql (qd (w_x Expr.rlen ?_));refine qf ?_;obtain ⟨x15, h16, h⟩ := qb h;refine qk (fun e s => .inr () = x15 ∧ Pre σ s) ?_ ?_
 ·refine qn (qH h16 (fun v e s => ∃ v17, v17 = v ∧ Bx σ s i2 27 (Program.cl a0) ∧ eT e 1 a1 ∧ eP e 2 i2 ∧ eI e 6 v17 ∧ Pre σ s) ⟨_, WkE.refl _, _, rfl, X2, E1, E2, (xv TT), hP⟩ ?_)
  rintro v x18 e s hf19 ⟨v17, rfl, X2, E1, E2, E6, hP⟩
  unfold ZJ at hf19;(try dsimp only at hf19);refine ql (qd (w_x (cj4 E2 E6 X2.get TT) ?_));refine qf (qd ?_);rcases qi hf19 with ⟨hb20, hf19⟩ | ⟨hb20, hf19⟩
  ·refine xt hb20 (qm (qf ?_));obtain ⟨x21, h22, hf19⟩ := qb hf19;refine qk (fun e s => .inr () = x21 ∧ Bx σ s i2 27 (Program.cl a0) ∧ eT e 1 a1 ∧ eP e 2 i2 ∧ eI e 6 v17 ∧ Pre σ s) ?_ ?_
   ·refine qn (qd ?_);obtain ⟨y23, h24, h22⟩ := qb h22;have R25 := qA (f := Flow.cl) (qg h24).2;refine w_x (cj7 E1 E2 E6 X2.get R25 (qg h24).1 TT) ?_;refine qf ?_;rcases qi h22 with ⟨hb26, h22⟩ | ⟨hb26, h22⟩
    ·refine xt hb26 (qd (w_x (cj4 E2 E6 X2.get TT) ?_));refine qf (qp (qw ?_));obtain rfl := qa h22;refine qB ?_;(try dsimp only at hf19);obtain rfl := qa hf19;refine zv rfl fun hr27 => ?_;obtain rfl := hr27;refine qw (qB ?_);(try dsimp only at h);obtain rfl := qa h;exact qt (fun _ => rfl) (xr (rs := #[.tmp 4]) TT) hP (.refl _) (.v _) hK
    ·refine xf hb26 (qm (qQ ?_));obtain rfl := qa h22;exact qe ⟨rfl, X2, E1, E2, E6, hP⟩
   rintro e s ⟨rfl, X2, E1, E2, E6, hP⟩
   (try dsimp only at hf19);refine w_x (cj2 E6 TT) ?_;obtain rfl := qa hf19;exact qZ rfl ⟨_, rfl, X2, E1, E2, (xv (cj2 E6 TT)), hP⟩
  ·refine xf hb20 (qE (qM ?_));obtain rfl := qa hf19;refine qY rfl fun hr28 => ?_;obtain rfl := hr28;exact qK (qe ⟨rfl, hP⟩)
 rintro e s ⟨rfl, hP⟩
 (try dsimp only at h);refine qd (w_x Expr.rlen ?_);refine qf (qp ?_);obtain rfl := qa h;exact qt (fun _ => rfl) (xr (rs := #[.tmp 4]) TT) hP (.refl _) (.v _) hK
noncomputable def QZ (a0 : Node) (a1 : ByteArray) : Int → Option (Int ⊕ (Bool ⊕ Unit))
 | v3 =>
  if (decide (v3 < ((List.length a0.params : Nat) : Int))) then
   ((qC a0.params v3).bind fun y9 =>
   if (decide (y9 = a1)) then
    some (.inl true)
   else
    some (.inr ()) : Option (Bool ⊕ Unit)).bind fun x => match x with
   | .inl r => some (.inr (.inl r))
   | .inr _ =>
    some (.inl (IntKind.i64.wrap (v3 + (1 : Int))))
  else
   some (.inr (.inr ()))
noncomputable def B_ref06_param (a0 : Node) (a1 : ByteArray) : Option Bool :=
 (qy (QZ a0 a1) (0 : Int) : Option (Bool ⊕ Unit)).bind fun x => match x with
 | .inl r => some r
 | .inr _ =>
  some false
theorem W_ref06_param : Sat_ref06_param (B_ref06_param) := by
 intro a0 a1 r h σ K hK;refine qW Try.func91 rfl rfl (by kernel_rfl) ?_;unfold B_ref06_param at h;have hP := Pre.refl σ;have E0 : qz [(.ag (Node.cl a0)), (.v (.string a1))] 0 = (.ag (Node.cl a0)) := rfl;have E1 : qz [(.ag (Node.cl a0)), (.v (.string a1))] 1 = (.v (.string a1)) := rfl;have TT := cj8 Expr.rlen Node.cle T_2 T_3 T_39 T_9 T_97 T_99;refine qk (fun e s => ∃ i2 : Nat, Bx σ s i2 99 (Node.cl a0) ∧ eT e 1 a1 ∧ eP e 2 i2 ∧ Pre σ s) ?_ ?_
 ·refine w_x (cj2 E0 TT) ?_;exact qe ⟨σ.length, (Bx.new hP _ _), E1, (xv (cj2 E0 TT)), (hP.app _)⟩
 rintro e s ⟨i2, X2, E1, E2, hP⟩
 refine ql (qd (w_x Expr.rlen ?_));refine qf ?_;obtain ⟨x1, h2, h⟩ := qb h;refine qk (fun e s => .inr () = x1 ∧ Pre σ s) ?_ ?_
 ·refine qn (qH h2 (fun v e s => ∃ v3, v3 = v ∧ Bx σ s i2 99 (Node.cl a0) ∧ eT e 1 a1 ∧ eP e 2 i2 ∧ eI e 5 v3 ∧ Pre σ s) ⟨_, WkE.refl _, _, rfl, X2, E1, E2, (xv TT), hP⟩ ?_)
  rintro v x4 e s hf5 ⟨v3, rfl, X2, E1, E2, E5, hP⟩
  unfold QZ at hf5;(try dsimp only at hf5);refine ql (qd (w_x (cj4 E2 E5 X2.get TT) ?_));refine qf (qd ?_);rcases qi hf5 with ⟨hb6, hf5⟩ | ⟨hb6, hf5⟩
  ·refine xt hb6 (qm (qf ?_));obtain ⟨x7, h8, hf5⟩ := qb hf5;refine qk (fun e s => .inr () = x7 ∧ Bx σ s i2 99 (Node.cl a0) ∧ eT e 1 a1 ∧ eP e 2 i2 ∧ eI e 5 v3 ∧ Pre σ s) ?_ ?_
   ·refine qn (qd ?_);obtain ⟨y9, h10, h8⟩ := qb h8;have R11 : (List.map C_s a0.params)[(v3).toNat]? = some [(.v (.string y9))] := qA (qg h10).2;refine w_x (cj7 E1 E2 E5 X2.get R11 (qg h10).1 TT) ?_;refine qf ?_;rcases qi h8 with ⟨hb12, h8⟩ | ⟨hb12, h8⟩
    ·refine xt hb12 (qd (w_x Expr.rlen ?_));refine qf (qp (qw ?_));obtain rfl := qa h8;refine qB ?_;(try dsimp only at hf5);obtain rfl := qa hf5;refine zv rfl fun hr13 => ?_;obtain rfl := hr13;refine qw (qB ?_);(try dsimp only at h);obtain rfl := qa h;exact qt (fun _ => rfl) (xr (rs := #[.tmp 4]) TT) hP (.refl _) (.v _) hK
    ·refine xf hb12 (qm (qQ ?_));obtain rfl := qa h8;exact qe ⟨rfl, X2, E1, E2, E5, hP⟩
   rintro e s ⟨rfl, X2, E1, E2, E5, hP⟩
   (try dsimp only at hf5);refine w_x (cj2 E5 TT) ?_;obtain rfl := qa hf5;exact qZ rfl ⟨_, rfl, X2, E1, E2, (xv (cj2 E5 TT)), hP⟩
  ·refine xf hb6 (qE (qM ?_));obtain rfl := qa hf5;refine qY rfl fun hr14 => ?_;obtain rfl := hr14;exact qK (qe ⟨rfl, hP⟩)
 rintro e s ⟨rfl, hP⟩
 (try dsimp only at h);refine qd (w_x Expr.rlen ?_);refine qf (qp ?_);obtain rfl := qa h;exact qt (fun _ => rfl) (xr (rs := #[.tmp 4]) TT) hP (.refl _) (.v _) hK
noncomputable def Qy (a0 : Node) (a1 : Expr) (f0 : Node → Expr → Option Bool) : Int → Option (Int ⊕ (Bool ⊕ Unit))
 | v9 =>
  if (decide (v9 < ((List.length a1.args : Nat) : Int))) then
   ((qC a1.args v9).bind fun y15 =>
   (f0 a0 y15).bind fun y17 =>
   if (!y17) then
    some (.inl false)
   else
    some (.inr ()) : Option (Bool ⊕ Unit)).bind fun x => match x with
   | .inl r => some (.inr (.inl r))
   | .inr _ =>
    some (.inl (IntKind.i64.wrap (v9 + (1 : Int))))
  else
   some (.inr (.inr ()))
noncomputable def B_ref06_body (f0 : Node → Expr → Option Bool) (f1 : Node → ByteArray → Option Bool) (a0 : Node) (a1 : Expr) : Option Bool :=
 (if (decide (a1.kind = (11 : Int))) then
  (f1 a0 a1.name).bind fun y1 =>
  some (!y1)
 else
  some false).bind fun w3 =>
 if ((decide (a1.kind = (11 : Int))) && w3) then
  some false
 else
  (qy (Qy a0 a1 f0) (0 : Int) : Option (Bool ⊕ Unit)).bind fun x => match x with
  | .inl r => some r
  | .inr _ =>
   some true
theorem W_ref06_body (f0 f1) (S0 : Sat_ref06_body f0) (S1 : Sat_ref06_param f1) : Sat_ref06_body (B_ref06_body f0 f1) := by
 intro a0 a1 r h σ K hK;refine qW Try.func50 rfl rfl (by kernel_rfl) ?_;unfold B_ref06_body at h;have hP := Pre.refl σ;have E0 : qz [(.ag (Node.cl a0)), (.ag (Expr.cl a1))] 0 = (.ag (Node.cl a0)) := rfl;have E1 : qz [(.ag (Node.cl a0)), (.ag (Expr.cl a1))] 1 = (.ag (Expr.cl a1)) := rfl;have TT := Zt Expr.cle Expr.rlen Node.cle T_2 T_3 T_37 T_39 T_9 T_97 T_99;refine qk (fun e s => ∃ i2 i3 : Nat, Bx σ s i2 99 (Node.cl a0) ∧ Bx σ s i3 39 (Expr.cl a1) ∧ eP e 2 i2 ∧ eP e 3 i3 ∧ Pre σ s) ?_ ?_
 ·refine w_x (cj3 E0 E1 TT) ?_;exact qe ⟨σ.length, (σ ++ [some (AObj.box 99 (Node.cl a0))]).length, ((Bx.new hP 99 (Node.cl a0)).app [some (AObj.box 39 (Expr.cl a1))]), (Bx.new (hP.app _) 39 (Expr.cl a1)), (xv (cj3 E0 E1 TT)), (xv (cj3 E0 E1 TT)), ((hP.app _).app _)⟩
 rintro e s ⟨i2, i3, X2, X3, E2, E3, hP⟩
 refine ql ?_;obtain ⟨w3, h4, h⟩ := qb h;refine qk (fun e s => Bx σ s i2 99 (Node.cl a0) ∧ Bx σ s i3 39 (Expr.cl a1) ∧ eP e 2 i2 ∧ eP e 3 i3 ∧ eB e 15 ((decide (a1.kind = (11 : Int))) && w3) ∧ Pre σ s) ?_ ?_
 ·cases hb5 : (decide (a1.kind = (11 : Int)))
  ·replace h4 := qU (by simp only [hb5, Bool.or_true, Bool.true_or, Bool.or_false, Bool.false_or, Bool.and_true, Bool.true_and, Bool.and_false, Bool.false_and, Bool.not_true, Bool.not_false, cond_true, cond_false]) h4;obtain rfl := qa h4;have q1 := cj6 E2 E3 X2.get X3.get hb5 TT;refine w_x q1 ?_;exact qe ⟨X2, X3, E2, E3, (xv q1), hP⟩
  ·replace h4 := qO (by simp only [hb5, Bool.or_true, Bool.true_or, Bool.or_false, Bool.false_or, Bool.and_true, Bool.true_and, Bool.and_false, Bool.false_and, Bool.not_true, Bool.not_false, cond_true, cond_false]) h4;obtain ⟨y1, h2, h4⟩ := qb h4;obtain rfl := qa h4;have q2 := cj6 E2 E3 X2.get X3.get hb5 TT;refine w_x q2 ?_;refine S1 _ _ _ h2 _ _  ?_;refine w_y q2 ?_;exact qe ⟨X2, X3, E2, E3, (xv q2), hP⟩
 rintro e s ⟨X2, X3, E2, E3, E15, hP⟩
 refine qd ?_;rcases qi h with ⟨hb6, h⟩ | ⟨hb6, h⟩
 ·refine xt (cj2 E15 hb6) (qd (w_x Expr.rlen ?_));refine qf (qp (zd ?_));obtain rfl := qa h;exact qt (fun _ => rfl) (xr (rs := #[.tmp 4]) TT) hP (.refl _) (.v _) hK
 ·refine xf (cj2 E15 hb6) (qm (qf (ql (qd (w_x Expr.rlen ?_)))));refine qf ?_;obtain ⟨x7, h8, h⟩ := qb h;refine qk (fun e s => .inr () = x7 ∧ Pre σ s) ?_ ?_
  ·refine qn (qH h8 (fun v e s => ∃ v9, v9 = v ∧ Bx σ s i2 99 (Node.cl a0) ∧ Bx σ s i3 39 (Expr.cl a1) ∧ eP e 2 i2 ∧ eP e 3 i3 ∧ eI e 5 v9 ∧ Pre σ s) ⟨_, WkE.refl _, _, rfl, X2, X3, E2, E3, (xv TT), hP⟩ ?_)
   rintro v x10 e s hf11 ⟨v9, rfl, X2, X3, E2, E3, E5, hP⟩
   unfold Qy at hf11;(try dsimp only at hf11);refine ql (qd (w_x (cj4 E3 E5 X3.get TT) ?_));refine qf (qd ?_);rcases qi hf11 with ⟨hb12, hf11⟩ | ⟨hb12, hf11⟩
   ·refine xt hb12 (qm (qf ?_));obtain ⟨x13, h14, hf11⟩ := qb hf11;refine qk (fun e s => .inr () = x13 ∧ Bx σ s i2 99 (Node.cl a0) ∧ Bx σ s i3 39 (Expr.cl a1) ∧ eP e 2 i2 ∧ eP e 3 i3 ∧ eI e 5 v9 ∧ Pre σ s) ?_ ?_
    ·refine qn ?_;obtain ⟨y15, h16, h14⟩ := qb h14;obtain ⟨y17, h18, h14⟩ := qb h14;refine qk (fun e s => Bx σ s i2 99 (Node.cl a0) ∧ Bx σ s i3 39 (Expr.cl a1) ∧ eP e 2 i2 ∧ eP e 3 i3 ∧ eI e 5 v9 ∧ eB e 30 (!y17) ∧ Pre σ s) ?_ ?_
     ·have R19 : (Expr.rows a1.args)[(v9).toNat]? = some (Expr.cl y15) := Expr.rget (qg h16).2;have q3 := cj8 E2 E3 E5 X2.get X3.get R19 (qg h16).1 TT;refine zn 6 0 q3 ?_;refine za q3 ?_;refine S0 _ _ _ h18 _ _  ?_;refine w_y q3 ?_;exact qe ⟨X2, X3, E2, E3, E5, (xv q3), hP⟩
     rintro e s ⟨X2, X3, E2, E3, E5, E30, hP⟩
     rcases qi h14 with ⟨hb20, h14⟩ | ⟨hb20, h14⟩
     ·refine xt (cj2 E30 hb20) (qd (w_x Expr.rlen ?_));refine qf (qp (qw ?_));obtain rfl := qa h14;refine qB ?_;(try dsimp only at hf11);obtain rfl := qa hf11;refine zv rfl fun hr21 => ?_;obtain rfl := hr21;refine qw (qB ?_);(try dsimp only at h);obtain rfl := qa h;exact qt (fun _ => rfl) (xr (rs := #[.tmp 4]) TT) hP (.refl _) (.v _) hK
     ·refine xf (cj2 E30 hb20) (qm (qQ ?_));obtain rfl := qa h14;exact qe ⟨rfl, X2, X3, E2, E3, E5, hP⟩
    rintro e s ⟨rfl, X2, X3, E2, E3, E5, hP⟩
    (try dsimp only at hf11);refine w_x (cj2 E5 TT) ?_;obtain rfl := qa hf11;exact qZ rfl ⟨_, rfl, X2, X3, E2, E3, (xv (cj2 E5 TT)), hP⟩
   ·refine xf hb12 (qE (qM ?_));obtain rfl := qa hf11;refine qY rfl fun hr22 => ?_;obtain rfl := hr22;exact qK (qe ⟨rfl, hP⟩)
  rintro e s ⟨rfl, hP⟩
  (try dsimp only at h);refine qd (w_x Expr.rlen ?_);refine qf (qp ?_);obtain rfl := qa h;exact qt (fun _ => rfl) (xr (rs := #[.tmp 4]) TT) hP (.refl _) (.v _) hK
noncomputable def QK (a0 : Program) (a1 : Expr) (f2 : Program → Expr → Option Bool) : Int → Option (Int ⊕ (Bool ⊕ Unit))
 | v21 =>
  if (decide (v21 < ((List.length a1.args : Nat) : Int))) then
   ((qC a1.args v21).bind fun y27 =>
   (f2 a0 y27).bind fun y29 =>
   if (!y29) then
    some (.inl false)
   else
    some (.inr ()) : Option (Bool ⊕ Unit)).bind fun x => match x with
   | .inl r => some (.inr (.inl r))
   | .inr _ =>
    some (.inl (IntKind.i64.wrap (v21 + (1 : Int))))
  else
   some (.inr (.inr ()))
noncomputable def B_ref06_expr (f0 : Program → ByteArray → Option Int) (f1 : Program → ByteArray → Option Int) (f2 : Program → Expr → Option Bool) (a0 : Program) (a1 : Expr) : Option Bool :=
 (if (decide (a1.kind = (1 : Int))) then
  (f1 a0 a1.name).bind fun y1 =>
  some (decide (y1 < (0 : Int)))
 else
  some false).bind fun w3 =>
 if ((decide (a1.kind = (1 : Int))) && w3) then
  some false
 else
  (if (decide (a1.kind = (2 : Int))) then
   (f0 a0 a1.name).bind fun y10 =>
   (if (decide (y10 < (0 : Int))) then
    some false
   else
    (qC a0.nodes y10).bind fun y12 =>
    some (!decide (((List.length y12.params : Nat) : Int) = ((List.length a1.args : Nat) : Int)))).bind fun w14 =>
   if ((decide (y10 < (0 : Int))) || w14) then
    some (.inl false)
   else
    some (.inr ())
  else
   some (.inr ()) : Option (Bool ⊕ Unit)).bind fun x => match x with
  | .inl r => some r
  | .inr _ =>
   (qy (QK a0 a1 f2) (0 : Int) : Option (Bool ⊕ Unit)).bind fun x => match x with
   | .inl r => some r
   | .inr _ =>
    some true
theorem W_ref06_expr (f0 f1 f2) (S0 : Sat_ref06_Node f0) (S1 : Sat_ref06_Flow f1) (S2 : Sat_ref06_expr f2) : Sat_ref06_expr (B_ref06_expr f0 f1 f2) := by
 intro a0 a1 r h σ K hK;refine qW Try.func51 rfl rfl (by kernel_rfl) ?_;unfold B_ref06_expr at h;have hP := Pre.refl σ;have E0 : qz [(.ag (Program.cl a0)), (.ag (Expr.cl a1))] 0 = (.ag (Program.cl a0)) := rfl;have E1 : qz [(.ag (Program.cl a0)), (.ag (Expr.cl a1))] 1 = (.ag (Expr.cl a1)) := rfl;have TT := JV Expr.cle Expr.rlen Node.cle Program.cle T_2 T_22 T_23 T_24 T_25 T_27 T_3 T_37 T_39 T_9 T_97 T_99;refine qk (fun e s => ∃ i2 i3 : Nat, Bx σ s i2 27 (Program.cl a0) ∧ Bx σ s i3 39 (Expr.cl a1) ∧ eP e 2 i2 ∧ eP e 3 i3 ∧ Pre σ s) ?_ ?_
 ·refine w_x (cj3 E0 E1 TT) ?_;exact qe ⟨σ.length, (σ ++ [some (AObj.box 27 (Program.cl a0))]).length, ((Bx.new hP 27 (Program.cl a0)).app [some (AObj.box 39 (Expr.cl a1))]), (Bx.new (hP.app _) 39 (Expr.cl a1)), (xv (cj3 E0 E1 TT)), (xv (cj3 E0 E1 TT)), ((hP.app _).app _)⟩
 rintro e s ⟨i2, i3, X2, X3, E2, E3, hP⟩
 refine ql ?_;obtain ⟨w3, h4, h⟩ := qb h;refine qk (fun e s => Bx σ s i2 27 (Program.cl a0) ∧ Bx σ s i3 39 (Expr.cl a1) ∧ eP e 2 i2 ∧ eP e 3 i3 ∧ eB e 16 ((decide (a1.kind = (1 : Int))) && w3) ∧ Pre σ s) ?_ ?_
 ·cases hb5 : (decide (a1.kind = (1 : Int)))
  ·replace h4 := qU (by simp only [hb5, Bool.or_true, Bool.true_or, Bool.or_false, Bool.false_or, Bool.and_true, Bool.true_and, Bool.and_false, Bool.false_and, Bool.not_true, Bool.not_false, cond_true, cond_false]) h4;obtain rfl := qa h4;have q1 := cj6 E2 E3 X2.get X3.get hb5 TT;refine w_x q1 ?_;exact qe ⟨X2, X3, E2, E3, (xv q1), hP⟩
  ·replace h4 := qO (by simp only [hb5, Bool.or_true, Bool.true_or, Bool.or_false, Bool.false_or, Bool.and_true, Bool.true_and, Bool.and_false, Bool.false_and, Bool.not_true, Bool.not_false, cond_true, cond_false]) h4;obtain ⟨y1, h2, h4⟩ := qb h4;obtain rfl := qa h4;have q2 := cj6 E2 E3 X2.get X3.get hb5 TT;refine w_x q2 ?_;refine S1 _ _ _ h2 _ _  ?_;refine w_y q2 ?_;exact qe ⟨X2, X3, E2, E3, (xv q2), hP⟩
 rintro e s ⟨X2, X3, E2, E3, E16, hP⟩
 refine qd ?_;rcases qi h with ⟨hb6, h⟩ | ⟨hb6, h⟩
 ·refine xt (cj2 E16 hb6) (qd (w_x Expr.rlen ?_));refine qf (qp (zd ?_));obtain rfl := qa h;exact qt (fun _ => rfl) (xr (rs := #[.tmp 4]) TT) hP (.refl _) (.v _) hK
 ·refine xf (cj2 E16 hb6) (qm (qf (ql (qd (w_x (cj3 E3 X3.get TT) ?_)))));refine qf ?_;obtain ⟨x7, h8, h⟩ := qb h;refine qk (fun e s => .inr () = x7 ∧ Bx σ s i2 27 (Program.cl a0) ∧ Bx σ s i3 39 (Expr.cl a1) ∧ eP e 2 i2 ∧ eP e 3 i3 ∧ Pre σ s) ?_ ?_
  ·rcases qi h8 with ⟨hb9, h8⟩ | ⟨hb9, h8⟩
   ·refine xt hb9 (qd ?_);obtain ⟨y10, h11, h8⟩ := qb h8;refine w_x (cj5 E2 E3 X2.get X3.get TT) ?_;refine S0 _ _ _ h11 _ _  ?_;refine w_y (cj5 E2 E3 X2.get X3.get TT) ?_;refine qf ?_;obtain ⟨w14, h15, h8⟩ := qb h8;refine qk (fun e s => Bx σ s i2 27 (Program.cl a0) ∧ Bx σ s i3 39 (Expr.cl a1) ∧ eP e 2 i2 ∧ eP e 3 i3 ∧ eB e 38 ((decide (y10 < (0 : Int))) || w14) ∧ Pre σ s) ?_ ?_
    ·cases hb16 : (decide (y10 < (0 : Int)))
     ·replace h15 := qU (by simp only [hb16, Bool.or_true, Bool.true_or, Bool.or_false, Bool.false_or, Bool.and_true, Bool.true_and, Bool.and_false, Bool.false_and, Bool.not_true, Bool.not_false, cond_true, cond_false]) h15;obtain ⟨y12, h13, h15⟩ := qb h15;obtain rfl := qa h15;have R17 := qA (f := Node.cl) (qg h13).2;have q3 := cj8 E2 E3 X2.get X3.get hb16 R17 (qg h13).1 TT;refine ZX q3 ?_;exact qe ⟨X2, X3, E2, E3, (xv q3), hP⟩
     ·replace h15 := qO (by simp only [hb16, Bool.or_true, Bool.true_or, Bool.or_false, Bool.false_or, Bool.and_true, Bool.true_and, Bool.and_false, Bool.false_and, Bool.not_true, Bool.not_false, cond_true, cond_false]) h15;obtain rfl := qa h15;have q4 := cj6 E2 E3 X2.get X3.get hb16 TT;refine ZX q4 ?_;exact qe ⟨X2, X3, E2, E3, (xv q4), hP⟩
    rintro e s ⟨X2, X3, E2, E3, E38, hP⟩
    rcases qi h8 with ⟨hb18, h8⟩ | ⟨hb18, h8⟩
    ·refine xt (cj2 E38 hb18) (qd (w_x Expr.rlen ?_));refine qf (qp ?_);obtain rfl := qa h8;refine qB ?_;(try dsimp only at h);obtain rfl := qa h;exact qt (fun _ => rfl) (xr (rs := #[.tmp 4]) TT) hP (.refl _) (.v _) hK
    ·refine xf (cj2 E38 hb18) (qm ?_);obtain rfl := qa h8;exact qe ⟨rfl, X2, X3, E2, E3, hP⟩
   ·refine xf hb9 (qm ?_);obtain rfl := qa h8;exact qe ⟨rfl, X2, X3, E2, E3, hP⟩
  rintro e s ⟨rfl, X2, X3, E2, E3, hP⟩
  (try dsimp only at h);refine ql (qd (w_x Expr.rlen ?_));refine qf ?_;obtain ⟨x19, h20, h⟩ := qb h;refine qk (fun e s => .inr () = x19 ∧ Pre σ s) ?_ ?_
  ·refine qn (qH h20 (fun v e s => ∃ v21, v21 = v ∧ Bx σ s i2 27 (Program.cl a0) ∧ Bx σ s i3 39 (Expr.cl a1) ∧ eP e 2 i2 ∧ eP e 3 i3 ∧ eI e 6 v21 ∧ Pre σ s) ⟨_, WkE.refl _, _, rfl, X2, X3, E2, E3, (xv TT), hP⟩ ?_)
   rintro v x22 e s hf23 ⟨v21, rfl, X2, X3, E2, E3, E6, hP⟩
   unfold QK at hf23;(try dsimp only at hf23);refine ql (qd (w_x (cj4 E3 E6 X3.get TT) ?_));refine qf (qd ?_);rcases qi hf23 with ⟨hb24, hf23⟩ | ⟨hb24, hf23⟩
   ·refine xt hb24 (qm (qf ?_));obtain ⟨x25, h26, hf23⟩ := qb hf23;refine qk (fun e s => .inr () = x25 ∧ Bx σ s i2 27 (Program.cl a0) ∧ Bx σ s i3 39 (Expr.cl a1) ∧ eP e 2 i2 ∧ eP e 3 i3 ∧ eI e 6 v21 ∧ Pre σ s) ?_ ?_
    ·refine qn ?_;obtain ⟨y27, h28, h26⟩ := qb h26;obtain ⟨y29, h30, h26⟩ := qb h26;refine qk (fun e s => Bx σ s i2 27 (Program.cl a0) ∧ Bx σ s i3 39 (Expr.cl a1) ∧ eP e 2 i2 ∧ eP e 3 i3 ∧ eI e 6 v21 ∧ eB e 53 (!y29) ∧ Pre σ s) ?_ ?_
     ·have R31 : (Expr.rows a1.args)[(v21).toNat]? = some (Expr.cl y27) := Expr.rget (qg h28).2;have q5 := cj8 E2 E3 E6 X2.get X3.get R31 (qg h28).1 TT;refine zn 6 0 q5 ?_;refine za q5 ?_;refine S2 _ _ _ h30 _ _  ?_;refine w_y q5 ?_;exact qe ⟨X2, X3, E2, E3, E6, (xv q5), hP⟩
     rintro e s ⟨X2, X3, E2, E3, E6, E53, hP⟩
     rcases qi h26 with ⟨hb32, h26⟩ | ⟨hb32, h26⟩
     ·refine xt (cj2 E53 hb32) (qd (w_x Expr.rlen ?_));refine qf (qp (qw ?_));obtain rfl := qa h26;refine qB ?_;(try dsimp only at hf23);obtain rfl := qa hf23;refine zv rfl fun hr33 => ?_;obtain rfl := hr33;refine qw (qB ?_);(try dsimp only at h);obtain rfl := qa h;exact qt (fun _ => rfl) (xr (rs := #[.tmp 4]) TT) hP (.refl _) (.v _) hK
     ·refine xf (cj2 E53 hb32) (qm (qQ ?_));obtain rfl := qa h26;exact qe ⟨rfl, X2, X3, E2, E3, E6, hP⟩
    rintro e s ⟨rfl, X2, X3, E2, E3, E6, hP⟩
    (try dsimp only at hf23);refine w_x (cj2 E6 TT) ?_;obtain rfl := qa hf23;exact qZ rfl ⟨_, rfl, X2, X3, E2, E3, (xv (cj2 E6 TT)), hP⟩
   ·refine xf hb24 (qE (qM ?_));obtain rfl := qa hf23;refine qY rfl fun hr34 => ?_;obtain rfl := hr34;exact qK (qe ⟨rfl, hP⟩)
  rintro e s ⟨rfl, hP⟩
  (try dsimp only at h);refine qd (w_x Expr.rlen ?_);refine qf (qp ?_);obtain rfl := qa h;exact qt (fun _ => rfl) (xr (rs := #[.tmp 4]) TT) hP (.refl _) (.v _) hK
noncomputable def Za (v89 : Int) (y95 : Output) (a0 : Program) : Int → Option (Int ⊕ (Bool ⊕ Unit))
 | v100 =>
  if (decide (v100 < v89)) then
   ((qC a0.outputs v100).bind fun y106 =>
   if (decide (y106.name = y95.name)) then
    some (.inl false)
   else
    some (.inr ()) : Option (Bool ⊕ Unit)).bind fun x => match x with
   | .inl r => some (.inr (.inl r))
   | .inr _ =>
    some (.inl (IntKind.i64.wrap (v100 + (1 : Int))))
  else
   some (.inr (.inr ()))
noncomputable def Zb (a0 : Program) (f1 : Program → ByteArray → Option Int) : Int → Option (Int ⊕ (Bool ⊕ Unit))
 | v89 =>
  if (decide (v89 < ((List.length a0.outputs : Nat) : Int))) then
   ((qC a0.outputs v89).bind fun y95 =>
   (qy (Za v89 y95 a0) (0 : Int) : Option (Bool ⊕ Unit)).bind fun x => match x with
   | .inl r => some (.inl r)
   | .inr _ =>
    (f1 a0 y95.flow).bind fun y113 =>
    if (decide (y113 < ((List.length a0.inputs : Nat) : Int))) then
     some (.inl false)
    else
     some (.inr ()) : Option (Bool ⊕ Unit)).bind fun x => match x with
   | .inl r => some (.inr (.inl r))
   | .inr _ =>
    some (.inl (IntKind.i64.wrap (v89 + (1 : Int))))
  else
   some (.inr (.inr ()))
noncomputable def Zc (a0 : Program) (f1 : Program → ByteArray → Option Int) (f3 : Program → Expr → Option Bool) : Int → Option (Int ⊕ (Bool ⊕ Unit))
 | v68 =>
  if (decide (v68 < ((List.length a0.flows : Nat) : Int))) then
   ((qC a0.flows v68).bind fun y74 =>
   (f1 a0 y74.name).bind fun y76 =>
   (if (!decide (y76 = (IntKind.i64.wrap (((List.length a0.inputs : Nat) : Int) + v68)))) then
    some false
   else
    (f3 a0 y74.e).bind fun y78 =>
    some (!y78)).bind fun w80 =>
   if ((!decide (y76 = (IntKind.i64.wrap (((List.length a0.inputs : Nat) : Int) + v68)))) || w80) then
    some (.inl false)
   else
    some (.inr ()) : Option (Bool ⊕ Unit)).bind fun x => match x with
   | .inl r => some (.inr (.inl r))
   | .inr _ =>
    some (.inl (IntKind.i64.wrap (v68 + (1 : Int))))
  else
   some (.inr (.inr ()))
noncomputable def Zd (a0 : Program) (f1 : Program → ByteArray → Option Int) : Int → Option (Int ⊕ (Bool ⊕ Unit))
 | v52 =>
  if (decide (v52 < ((List.length a0.inputs : Nat) : Int))) then
   ((qC a0.inputs v52).bind fun y58 =>
   (f1 a0 y58.name).bind fun y60 =>
   if (!decide (y60 = v52)) then
    some (.inl false)
   else
    some (.inr ()) : Option (Bool ⊕ Unit)).bind fun x => match x with
   | .inl r => some (.inr (.inl r))
   | .inr _ =>
    some (.inl (IntKind.i64.wrap (v52 + (1 : Int))))
  else
   some (.inr (.inr ()))
noncomputable def Ze (v23 : Int) (y9 : Node) : Int → Option (Int ⊕ (Bool ⊕ Unit))
 | v31 =>
  if (decide (v31 < v23)) then
   ((qC y9.params v31).bind fun y37 =>
   (qC y9.params v23).bind fun y39 =>
   if (decide (y37 = y39)) then
    some (.inl false)
   else
    some (.inr ()) : Option (Bool ⊕ Unit)).bind fun x => match x with
   | .inl r => some (.inr (.inl r))
   | .inr _ =>
    some (.inl (IntKind.i64.wrap (v31 + (1 : Int))))
  else
   some (.inr (.inr ()))
noncomputable def Zf (y9 : Node) : Int → Option (Int ⊕ (Bool ⊕ Unit))
 | v23 =>
  if (decide (v23 < ((List.length y9.params : Nat) : Int))) then
   ((qy (Ze v23 y9) (0 : Int) : Option (Bool ⊕ Unit)).bind fun x => match x with
   | .inl r => some (.inl r)
   | .inr _ =>
    some (.inr ()) : Option (Bool ⊕ Unit)).bind fun x => match x with
   | .inl r => some (.inr (.inl r))
   | .inr _ =>
    some (.inl (IntKind.i64.wrap (v23 + (1 : Int))))
  else
   some (.inr (.inr ()))
noncomputable def Zg (a0 : Program) (f0 : Program → ByteArray → Option Int) (f2 : Node → Expr → Option Bool) : Int → Option (Int ⊕ (Bool ⊕ Unit))
 | v3 =>
  if (decide (v3 < ((List.length a0.nodes : Nat) : Int))) then
   ((qC a0.nodes v3).bind fun y9 =>
   (f0 a0 y9.name).bind fun y12 =>
   (if (!decide (y12 = v3)) then
    some false
   else
    (f2 y9 y9.body).bind fun y14 =>
    some (!y14)).bind fun w16 =>
   if ((!decide (y12 = v3)) || w16) then
    some (.inl false)
   else
    (qy (Zf y9) (0 : Int) : Option (Bool ⊕ Unit)).bind fun x => match x with
    | .inl r => some (.inl r)
    | .inr _ =>
     some (.inr ()) : Option (Bool ⊕ Unit)).bind fun x => match x with
   | .inl r => some (.inr (.inl r))
   | .inr _ =>
    some (.inl (IntKind.i64.wrap (v3 + (1 : Int))))
  else
   some (.inr (.inr ()))
noncomputable def B_ref06_Names (f0 : Program → ByteArray → Option Int) (f1 : Program → ByteArray → Option Int) (f2 : Node → Expr → Option Bool) (f3 : Program → Expr → Option Bool) (a0 : Program) : Option Bool :=
 (qy (Zg a0 f0 f2) (0 : Int) : Option (Bool ⊕ Unit)).bind fun x => match x with
 | .inl r => some r
 | .inr _ =>
  (qy (Zd a0 f1) (0 : Int) : Option (Bool ⊕ Unit)).bind fun x => match x with
  | .inl r => some r
  | .inr _ =>
   (qy (Zc a0 f1 f3) (0 : Int) : Option (Bool ⊕ Unit)).bind fun x => match x with
   | .inl r => some r
   | .inr _ =>
    (qy (Zb a0 f1) (0 : Int) : Option (Bool ⊕ Unit)).bind fun x => match x with
    | .inl r => some r
    | .inr _ =>
     some true
abbrev C13_0 (z0 z1 : Store) (z2 : Nat) (z3 : Program) : Prop := Bx z0 z1 z2 27 (Program.cl z3)
theorem W_ref06_Names (f0 f1 f2 f3) (S0 : Sat_ref06_Node f0) (S1 : Sat_ref06_Flow f1) (S2 : Sat_ref06_body f2) (S3 : Sat_ref06_expr f3) : Sat_ref06_Names (B_ref06_Names f0 f1 f2 f3) := by
 intro a0 r h σ K hK;refine qW Try.func13 rfl rfl (by kernel_rfl) ?_;unfold B_ref06_Names at h;have hP := Pre.refl σ;have E0 : qz [(.ag (Program.cl a0))] 0 = (.ag (Program.cl a0)) := rfl;have TT := cj2 Expr.rlen (ZC Flow.cle Input.cle Node.cle Output.cle Program.cle T_2 T_22 T_23 T_24 T_25 T_27 T_3 T_37 T_39 T_41 T_65 T_9 T_96 T_97 T_99);refine qk (fun e s => ∃ i1 : Nat, C13_0 σ s i1 a0 ∧ eP e 1 i1 ∧ Pre σ s) ?_ ?_
 ·refine w_x (cj2 E0 TT) ?_;exact qe ⟨σ.length, (Bx.new hP _ _), (xv (cj2 E0 TT)), (hP.app _)⟩
 rintro e s ⟨i1, X1, E1, hP⟩
 refine ql (qd (w_x Expr.rlen ?_));refine qf ?_;obtain ⟨x1, h2, h⟩ := qb h;refine qk (fun e s => .inr () = x1 ∧ C13_0 σ s i1 a0 ∧ eP e 1 i1 ∧ Pre σ s) ?_ ?_
 ·refine qn (qH h2 (fun v e s => ∃ v3, v3 = v ∧ C13_0 σ s i1 a0 ∧ eP e 1 i1 ∧ eI e 3 v3 ∧ Pre σ s) ⟨_, WkE.refl _, _, rfl, X1, E1, (xv TT), hP⟩ ?_)
  rintro v x4 e s hf5 ⟨v3, rfl, X1, E1, E3, hP⟩
  unfold Zg at hf5;(try dsimp only at hf5);refine ql (qd (w_x (cj4 E1 E3 X1.get TT) ?_));refine qf (qd ?_);rcases qi hf5 with ⟨hb6, hf5⟩ | ⟨hb6, hf5⟩
  ·refine xt hb6 (qm (qf ?_));obtain ⟨x7, h8, hf5⟩ := qb hf5;refine qk (fun e s => .inr () = x7 ∧ C13_0 σ s i1 a0 ∧ eP e 1 i1 ∧ eI e 3 v3 ∧ Pre σ s) ?_ ?_
   ·refine qn ?_;obtain ⟨y9, h10, h8⟩ := qb h8;refine qk (fun e s => ∃ i4 : Nat, C13_0 σ s i1 a0 ∧ Bx σ s i4 99 (Node.cl y9) ∧ eP e 1 i1 ∧ eI e 3 v3 ∧ eP e 4 i4 ∧ Pre σ s) ?_ ?_
    ·have R11 := qA (f := Node.cl) (qg h10).2;have q1 := cj6 E1 E3 X1.g3 R11 (qg h10).1 TT;refine w_x q1 ?_;exact qe ⟨s.length, (X1.app _), (Bx.new hP _ _), E1, E3, (xv q1), (hP.app _)⟩
    rintro e s ⟨i4, X1, X4, E1, E3, E4, hP⟩
    refine ql ?_;obtain ⟨y12, h13, h8⟩ := qb h8;obtain ⟨w16, h17, h8⟩ := qb h8;refine qk (fun e s => C13_0 σ s i1 a0 ∧ Bx σ s i4 99 (Node.cl y9) ∧ eP e 1 i1 ∧ eI e 3 v3 ∧ eP e 4 i4 ∧ eB e 36 ((!decide (y12 = v3)) || w16) ∧ Pre σ s) ?_ ?_
    ·cases hb18 : (!decide (y12 = v3))
     ·replace h17 := qU (by simp only [hb18, Bool.or_true, Bool.true_or, Bool.or_false, Bool.false_or, Bool.and_true, Bool.true_and, Bool.and_false, Bool.false_and, Bool.not_true, Bool.not_false, cond_true, cond_false]) h17;obtain ⟨y14, h15, h17⟩ := qb h17;obtain rfl := qa h17;have q2 := cj7 E1 E3 E4 X1.get X4.get hb18 TT;refine w_x q2 ?_;refine S0 _ _ _ h13 _ _  ?_;refine w_y q2 ?_;refine S2 _ _ _ h15 _ _  ?_;refine w_y q2 ?_;exact qe ⟨X1, X4, E1, E3, E4, (xv q2), hP⟩
     ·replace h17 := qO (by simp only [hb18, Bool.or_true, Bool.true_or, Bool.or_false, Bool.false_or, Bool.and_true, Bool.true_and, Bool.and_false, Bool.false_and, Bool.not_true, Bool.not_false, cond_true, cond_false]) h17;obtain rfl := qa h17;have q3 := cj7 E1 E3 E4 X1.get X4.get hb18 TT;refine w_x q3 ?_;refine S0 _ _ _ h13 _ _  ?_;refine w_y q3 ?_;exact qe ⟨X1, X4, E1, E3, E4, (xv q3), hP⟩
    rintro e s ⟨X1, X4, E1, E3, E4, E36, hP⟩
    refine qd ?_;rcases qi h8 with ⟨hb19, h8⟩ | ⟨hb19, h8⟩
    ·refine xt (cj2 E36 hb19) (qd (w_x Expr.rlen ?_));refine qf (qp (zd (qw ?_)));obtain rfl := qa h8;refine qB ?_;(try dsimp only at hf5);obtain rfl := qa hf5;refine zv rfl fun hr20 => ?_;obtain rfl := hr20;refine qw (qB ?_);(try dsimp only at h);obtain rfl := qa h;exact qt (fun _ => rfl) (xr (rs := #[.tmp 2]) TT) hP (.refl _) (.v _) hK
    ·refine xf (cj2 E36 hb19) (qm (qf (qd (w_x Expr.rlen ?_))));refine qf ?_;obtain ⟨x21, h22, h8⟩ := qb h8;refine zE (fun e s => .inr () = x21 ∧ C13_0 σ s i1 a0 ∧ eP e 1 i1 ∧ eI e 3 v3 ∧ Pre σ s) ?_ ?_
     ·refine qn (qH h22 (fun v e s => ∃ v23, v23 = v ∧ C13_0 σ s i1 a0 ∧ Bx σ s i4 99 (Node.cl y9) ∧ eP e 1 i1 ∧ eI e 3 v3 ∧ eP e 4 i4 ∧ eI e 5 v23 ∧ Pre σ s) ⟨_, WkE.refl _, _, rfl, X1, X4, E1, E3, E4, (xv TT), hP⟩ ?_)
      rintro v x24 e s hf25 ⟨v23, rfl, X1, X4, E1, E3, E4, E5, hP⟩
      unfold Zf at hf25;(try dsimp only at hf25);refine ql (qd (w_x (cj4 E4 E5 X4.get TT) ?_));refine qf (qd ?_);rcases qi hf25 with ⟨hb26, hf25⟩ | ⟨hb26, hf25⟩
      ·refine xt hb26 (qm (qf ?_));obtain ⟨x27, h28, hf25⟩ := qb hf25;refine qk (fun e s => .inr () = x27 ∧ C13_0 σ s i1 a0 ∧ Bx σ s i4 99 (Node.cl y9) ∧ eP e 1 i1 ∧ eI e 3 v3 ∧ eP e 4 i4 ∧ eI e 5 v23 ∧ Pre σ s) ?_ ?_
       ·refine qn (qd (w_x Expr.rlen ?_));refine qf ?_;obtain ⟨x29, h30, h28⟩ := qb h28;refine zE (fun e s => .inr () = x29 ∧ C13_0 σ s i1 a0 ∧ Bx σ s i4 99 (Node.cl y9) ∧ eP e 1 i1 ∧ eI e 3 v3 ∧ eP e 4 i4 ∧ eI e 5 v23 ∧ Pre σ s) ?_ ?_
        ·refine qn (qH h30 (fun v e s => ∃ v31, v31 = v ∧ C13_0 σ s i1 a0 ∧ Bx σ s i4 99 (Node.cl y9) ∧ eP e 1 i1 ∧ eI e 3 v3 ∧ eP e 4 i4 ∧ eI e 5 v23 ∧ eI e 6 v31 ∧ Pre σ s) ⟨_, WkE.refl _, _, rfl, X1, X4, E1, E3, E4, E5, (xv TT), hP⟩ ?_)
         rintro v x32 e s hf33 ⟨v31, rfl, X1, X4, E1, E3, E4, E5, E6, hP⟩
         unfold Ze at hf33;(try dsimp only at hf33);refine ql (qd (w_x (cj3 E5 E6 TT) ?_));refine qf (qd ?_);rcases qi hf33 with ⟨hb34, hf33⟩ | ⟨hb34, hf33⟩
         ·refine xt hb34 (qm (qf ?_));obtain ⟨x35, h36, hf33⟩ := qb hf33;refine qk (fun e s => .inr () = x35 ∧ C13_0 σ s i1 a0 ∧ Bx σ s i4 99 (Node.cl y9) ∧ eP e 1 i1 ∧ eI e 3 v3 ∧ eP e 4 i4 ∧ eI e 5 v23 ∧ eI e 6 v31 ∧ Pre σ s) ?_ ?_
          ·refine qn (qd ?_);obtain ⟨y37, h38, h36⟩ := qb h36;obtain ⟨y39, h40, h36⟩ := qb h36;have R41 : (List.map C_s y9.params)[(v31).toNat]? = some [(.v (.string y37))] := qA (qg h38).2;have R42 : (List.map C_s y9.params)[(v23).toNat]? = some [(.v (.string y39))] := qA (qg h40).2;refine ZX (cj9 E4 E5 E6 X4.get R41 (qg h38).1 R42 (qg h40).1 TT) ?_;refine qf ?_;rcases qi h36 with ⟨hb43, h36⟩ | ⟨hb43, h36⟩
           ·refine xt hb43 (qd (w_x Expr.rlen ?_));refine qf (qp (qw ?_));obtain rfl := qa h36;refine qB ?_;(try dsimp only at hf33);obtain rfl := qa hf33;refine zv rfl fun hr44 => ?_;obtain rfl := hr44;refine qw (Yk ?_);(try dsimp only at h28);refine qw ?_;obtain rfl := qa h28;refine qB ?_;(try dsimp only at hf25);obtain rfl := qa hf25;refine zv rfl fun hr45 => ?_;obtain rfl := hr45;refine qw (Yk ?_);(try dsimp only at h8);refine qw ?_;obtain rfl := qa h8;refine qB ?_;(try dsimp only at hf5);obtain rfl := qa hf5;refine zv rfl fun hr46 => ?_;obtain rfl := hr46;refine qw (qB ?_);(try dsimp only at h);obtain rfl := qa h;exact qt (fun _ => rfl) (xr (rs := #[.tmp 2]) TT) hP (.refl _) (.v _) hK
           ·refine xf hb43 (qm (qQ ?_));obtain rfl := qa h36;exact qe ⟨rfl, X1, X4, E1, E3, E4, E5, E6, hP⟩
          rintro e s ⟨rfl, X1, X4, E1, E3, E4, E5, E6, hP⟩
          (try dsimp only at hf33);refine w_x (cj2 E6 TT) ?_;obtain rfl := qa hf33;exact qZ rfl ⟨_, rfl, X1, X4, E1, E3, E4, E5, (xv (cj2 E6 TT)), hP⟩
         ·refine xf hb34 (qE (qM ?_));obtain rfl := qa hf33;refine qY rfl fun hr47 => ?_;obtain rfl := hr47;exact qK (qS ⟨rfl, X1, X4, E1, E3, E4, E5, hP⟩)
        rintro e s ⟨rfl, X1, X4, E1, E3, E4, E5, hP⟩
        (try dsimp only at h28);refine qQ ?_;obtain rfl := qa h28;exact qe ⟨rfl, X1, X4, E1, E3, E4, E5, hP⟩
       rintro e s ⟨rfl, X1, X4, E1, E3, E4, E5, hP⟩
       (try dsimp only at hf25);refine w_x (cj2 E5 TT) ?_;obtain rfl := qa hf25;exact qZ rfl ⟨_, rfl, X1, X4, E1, E3, E4, (xv (cj2 E5 TT)), hP⟩
      ·refine xf hb26 (qE (qM ?_));obtain rfl := qa hf25;refine qY rfl fun hr48 => ?_;obtain rfl := hr48;exact qK (qS ⟨rfl, X1, E1, E3, hP⟩)
     rintro e s ⟨rfl, X1, E1, E3, hP⟩
     (try dsimp only at h8);refine qQ ?_;obtain rfl := qa h8;exact qe ⟨rfl, X1, E1, E3, hP⟩
   rintro e s ⟨rfl, X1, E1, E3, hP⟩
   (try dsimp only at hf5);refine w_x (cj2 E3 TT) ?_;obtain rfl := qa hf5;exact qZ rfl ⟨_, rfl, X1, E1, (xv (cj2 E3 TT)), hP⟩
  ·refine xf hb6 (qE (qM ?_));obtain rfl := qa hf5;refine qY rfl fun hr49 => ?_;obtain rfl := hr49;exact qK (qe ⟨rfl, X1, E1, hP⟩)
 rintro e s ⟨rfl, X1, E1, hP⟩
 (try dsimp only at h);refine ql (qd (w_x Expr.rlen ?_));refine qf ?_;obtain ⟨x50, h51, h⟩ := qb h;refine qk (fun e s => .inr () = x50 ∧ C13_0 σ s i1 a0 ∧ eP e 1 i1 ∧ Pre σ s) ?_ ?_
 ·refine qn (qH h51 (fun v e s => ∃ v52, v52 = v ∧ C13_0 σ s i1 a0 ∧ eP e 1 i1 ∧ eI e 7 v52 ∧ Pre σ s) ⟨_, WkE.refl _, _, rfl, X1, E1, (xv TT), hP⟩ ?_)
  rintro v x53 e s hf54 ⟨v52, rfl, X1, E1, E7, hP⟩
  unfold Zd at hf54;(try dsimp only at hf54);refine ql (qd (w_x (cj4 E1 E7 X1.get TT) ?_));refine qf (qd ?_);rcases qi hf54 with ⟨hb55, hf54⟩ | ⟨hb55, hf54⟩
  ·refine xt hb55 (qm (qf ?_));obtain ⟨x56, h57, hf54⟩ := qb hf54;refine qk (fun e s => .inr () = x56 ∧ C13_0 σ s i1 a0 ∧ eP e 1 i1 ∧ eI e 7 v52 ∧ Pre σ s) ?_ ?_
   ·refine qn ?_;obtain ⟨y58, h59, h57⟩ := qb h57;obtain ⟨y60, h61, h57⟩ := qb h57;refine qk (fun e s => C13_0 σ s i1 a0 ∧ eP e 1 i1 ∧ eI e 7 v52 ∧ eB e 76 (!decide (y60 = v52)) ∧ Pre σ s) ?_ ?_
    ·have R62 := qA (f := Input.cl) (qg h59).2;have q4 := cj6 E1 E7 X1.get R62 (qg h59).1 TT;refine zn 9 0 q4 ?_;refine S1 _ _ _ h61 _ _  ?_;refine Jv q4 ?_ ;refine za q4 ?_;exact qe ⟨X1, E1, E7, (xv q4), hP⟩
    rintro e s ⟨X1, E1, E7, E76, hP⟩
    rcases qi h57 with ⟨hb63, h57⟩ | ⟨hb63, h57⟩
    ·refine xt (cj2 E76 hb63) (qd (w_x Expr.rlen ?_));refine qf (qp (qw ?_));obtain rfl := qa h57;refine qB ?_;(try dsimp only at hf54);obtain rfl := qa hf54;refine zv rfl fun hr64 => ?_;obtain rfl := hr64;refine qw (qB ?_);(try dsimp only at h);obtain rfl := qa h;exact qt (fun _ => rfl) (xr (rs := #[.tmp 2]) TT) hP (.refl _) (.v _) hK
    ·refine xf (cj2 E76 hb63) (qm (qQ ?_));obtain rfl := qa h57;exact qe ⟨rfl, X1, E1, E7, hP⟩
   rintro e s ⟨rfl, X1, E1, E7, hP⟩
   (try dsimp only at hf54);refine w_x (cj2 E7 TT) ?_;obtain rfl := qa hf54;exact qZ rfl ⟨_, rfl, X1, E1, (xv (cj2 E7 TT)), hP⟩
  ·refine xf hb55 (qE (qM ?_));obtain rfl := qa hf54;refine qY rfl fun hr65 => ?_;obtain rfl := hr65;exact qK (qe ⟨rfl, X1, E1, hP⟩)
 rintro e s ⟨rfl, X1, E1, hP⟩
 (try dsimp only at h);refine ql (qd (w_x Expr.rlen ?_));refine qf ?_;obtain ⟨x66, h67, h⟩ := qb h;refine qk (fun e s => .inr () = x66 ∧ C13_0 σ s i1 a0 ∧ eP e 1 i1 ∧ Pre σ s) ?_ ?_
 ·refine qn (qH h67 (fun v e s => ∃ v68, v68 = v ∧ C13_0 σ s i1 a0 ∧ eP e 1 i1 ∧ eI e 8 v68 ∧ Pre σ s) ⟨_, WkE.refl _, _, rfl, X1, E1, (xv TT), hP⟩ ?_)
  rintro v x69 e s hf70 ⟨v68, rfl, X1, E1, E8, hP⟩
  unfold Zc at hf70;(try dsimp only at hf70);refine ql (qd (w_x (cj4 E1 E8 X1.get TT) ?_));refine qf (qd ?_);rcases qi hf70 with ⟨hb71, hf70⟩ | ⟨hb71, hf70⟩
  ·refine xt hb71 (qm (qf ?_));obtain ⟨x72, h73, hf70⟩ := qb hf70;refine qk (fun e s => .inr () = x72 ∧ C13_0 σ s i1 a0 ∧ eP e 1 i1 ∧ eI e 8 v68 ∧ Pre σ s) ?_ ?_
   ·refine qn ?_;obtain ⟨y74, h75, h73⟩ := qb h73;obtain ⟨y76, h77, h73⟩ := qb h73;obtain ⟨w80, h81, h73⟩ := qb h73;refine qk (fun e s => C13_0 σ s i1 a0 ∧ eP e 1 i1 ∧ eI e 8 v68 ∧ eB e 108 ((!decide (y76 = (IntKind.i64.wrap (((List.length a0.inputs : Nat) : Int) + v68)))) || w80) ∧ Pre σ s) ?_ ?_
    ·have R82 := qA (f := Flow.cl) (qg h75).2;cases hb83 : (!decide (y76 = (IntKind.i64.wrap (((List.length a0.inputs : Nat) : Int) + v68))))
     ·replace h81 := qU (by simp only [hb83, Bool.or_true, Bool.true_or, Bool.or_false, Bool.false_or, Bool.and_true, Bool.true_and, Bool.and_false, Bool.false_and, Bool.not_true, Bool.not_false, cond_true, cond_false]) h81;obtain ⟨y78, h79, h81⟩ := qb h81;obtain rfl := qa h81;have q5 := cj7 E1 E8 X1.get R82 (qg h75).1 hb83 TT;refine zn 22 0 q5 ?_;refine S1 _ _ _ h77 _ _  ?_;refine Jv q5 ?_ ;refine za q5 ?_;refine S3 _ _ _ h79 _ _  ?_;refine w_y q5 ?_;exact qe ⟨X1, E1, E8, (xv q5), hP⟩
     ·replace h81 := qO (by simp only [hb83, Bool.or_true, Bool.true_or, Bool.or_false, Bool.false_or, Bool.and_true, Bool.true_and, Bool.and_false, Bool.false_and, Bool.not_true, Bool.not_false, cond_true, cond_false]) h81;obtain rfl := qa h81;have q6 := cj7 E1 E8 X1.get R82 (qg h75).1 hb83 TT;refine zn 22 0 q6 ?_;refine S1 _ _ _ h77 _ _  ?_;refine Jv q6 ?_ ;refine za q6 ?_;exact qe ⟨X1, E1, E8, (xv q6), hP⟩
    rintro e s ⟨X1, E1, E8, E108, hP⟩
    rcases qi h73 with ⟨hb84, h73⟩ | ⟨hb84, h73⟩
    ·refine xt (cj2 E108 hb84) (qd (w_x Expr.rlen ?_));refine qf (qp (qw ?_));obtain rfl := qa h73;refine qB ?_;(try dsimp only at hf70);obtain rfl := qa hf70;refine zv rfl fun hr85 => ?_;obtain rfl := hr85;refine qw (qB ?_);(try dsimp only at h);obtain rfl := qa h;exact qt (fun _ => rfl) (xr (rs := #[.tmp 2]) TT) hP (.refl _) (.v _) hK
    ·refine xf (cj2 E108 hb84) (qm (qQ ?_));obtain rfl := qa h73;exact qe ⟨rfl, X1, E1, E8, hP⟩
   rintro e s ⟨rfl, X1, E1, E8, hP⟩
   (try dsimp only at hf70);refine w_x (cj2 E8 TT) ?_;obtain rfl := qa hf70;exact qZ rfl ⟨_, rfl, X1, E1, (xv (cj2 E8 TT)), hP⟩
  ·refine xf hb71 (qE (qM ?_));obtain rfl := qa hf70;refine qY rfl fun hr86 => ?_;obtain rfl := hr86;exact qK (qe ⟨rfl, X1, E1, hP⟩)
 rintro e s ⟨rfl, X1, E1, hP⟩
 (try dsimp only at h);refine ql (qd (w_x Expr.rlen ?_));refine qf ?_;obtain ⟨x87, h88, h⟩ := qb h;refine qk (fun e s => .inr () = x87 ∧ Pre σ s) ?_ ?_
 ·refine qn (qH h88 (fun v e s => ∃ v89, v89 = v ∧ C13_0 σ s i1 a0 ∧ eP e 1 i1 ∧ eI e 9 v89 ∧ Pre σ s) ⟨_, WkE.refl _, _, rfl, X1, E1, (xv TT), hP⟩ ?_)
  rintro v x90 e s hf91 ⟨v89, rfl, X1, E1, E9, hP⟩
  unfold Zb at hf91;(try dsimp only at hf91);refine ql (qd (w_x (cj4 E1 E9 X1.get TT) ?_));refine qf (qd ?_);rcases qi hf91 with ⟨hb92, hf91⟩ | ⟨hb92, hf91⟩
  ·refine xt hb92 (qm (qf ?_));obtain ⟨x93, h94, hf91⟩ := qb hf91;refine qk (fun e s => .inr () = x93 ∧ C13_0 σ s i1 a0 ∧ eP e 1 i1 ∧ eI e 9 v89 ∧ Pre σ s) ?_ ?_
   ·refine qn ?_;obtain ⟨y95, h96, h94⟩ := qb h94;refine qk (fun e s => ∃ i10 : Nat, C13_0 σ s i1 a0 ∧ Bx σ s i10 65 (Output.cl y95) ∧ eP e 1 i1 ∧ eI e 9 v89 ∧ eP e 10 i10 ∧ Pre σ s) ?_ ?_
    ·have R97 := qA (f := Output.cl) (qg h96).2;have q7 := cj6 E1 E9 X1.g3 R97 (qg h96).1 TT;refine w_x q7 ?_;exact qe ⟨s.length, (X1.app _), (Bx.new hP _ _), E1, E9, (xv q7), (hP.app _)⟩
    rintro e s ⟨i10, X1, X10, E1, E9, E10, hP⟩
    refine ql (qd (w_x Expr.rlen ?_));refine qf ?_;obtain ⟨x98, h99, h94⟩ := qb h94;refine qk (fun e s => .inr () = x98 ∧ C13_0 σ s i1 a0 ∧ Bx σ s i10 65 (Output.cl y95) ∧ eP e 1 i1 ∧ eI e 9 v89 ∧ eP e 10 i10 ∧ Pre σ s) ?_ ?_
    ·refine qn (qH h99 (fun v e s => ∃ v100, v100 = v ∧ C13_0 σ s i1 a0 ∧ Bx σ s i10 65 (Output.cl y95) ∧ eP e 1 i1 ∧ eI e 9 v89 ∧ eP e 10 i10 ∧ eI e 11 v100 ∧ Pre σ s) ⟨_, WkE.refl _, _, rfl, X1, X10, E1, E9, E10, (xv TT), hP⟩ ?_)
     rintro v x101 e s hf102 ⟨v100, rfl, X1, X10, E1, E9, E10, E11, hP⟩
     unfold Za at hf102;(try dsimp only at hf102);refine ql (qd (w_x (cj3 E9 E11 TT) ?_));refine qf (qd ?_);rcases qi hf102 with ⟨hb103, hf102⟩ | ⟨hb103, hf102⟩
     ·refine xt hb103 (qm (qf ?_));obtain ⟨x104, h105, hf102⟩ := qb hf102;refine qk (fun e s => .inr () = x104 ∧ C13_0 σ s i1 a0 ∧ Bx σ s i10 65 (Output.cl y95) ∧ eP e 1 i1 ∧ eI e 9 v89 ∧ eP e 10 i10 ∧ eI e 11 v100 ∧ Pre σ s) ?_ ?_
      ·refine qn (qd ?_);obtain ⟨y106, h107, h105⟩ := qb h105;have R108 := qA (f := Output.cl) (qg h107).2;refine ZX (cj8 E1 E10 E11 X1.get X10.get R108 (qg h107).1 TT) ?_;refine qf ?_;rcases qi h105 with ⟨hb109, h105⟩ | ⟨hb109, h105⟩
       ·refine xt hb109 (qd (w_x Expr.rlen ?_));refine qf (qp (qw ?_));obtain rfl := qa h105;refine qB ?_;(try dsimp only at hf102);obtain rfl := qa hf102;refine zv rfl fun hr110 => ?_;obtain rfl := hr110;refine qw (qB ?_);(try dsimp only at h94);refine qw ?_;obtain rfl := qa h94;refine qB ?_;(try dsimp only at hf91);obtain rfl := qa hf91;refine zv rfl fun hr111 => ?_;obtain rfl := hr111;refine qw (qB ?_);(try dsimp only at h);obtain rfl := qa h;exact qt (fun _ => rfl) (xr (rs := #[.tmp 2]) TT) hP (.refl _) (.v _) hK
       ·refine xf hb109 (qm (qQ ?_));obtain rfl := qa h105;exact qe ⟨rfl, X1, X10, E1, E9, E10, E11, hP⟩
      rintro e s ⟨rfl, X1, X10, E1, E9, E10, E11, hP⟩
      (try dsimp only at hf102);refine w_x (cj2 E11 TT) ?_;obtain rfl := qa hf102;exact qZ rfl ⟨_, rfl, X1, X10, E1, E9, E10, (xv (cj2 E11 TT)), hP⟩
     ·refine xf hb103 (qE (qM ?_));obtain rfl := qa hf102;refine qY rfl fun hr112 => ?_;obtain rfl := hr112;exact qK (qe ⟨rfl, X1, X10, E1, E9, E10, hP⟩)
    rintro e s ⟨rfl, X1, X10, E1, E9, E10, hP⟩
    (try dsimp only at h94);obtain ⟨y113, h114, h94⟩ := qb h94;refine qk (fun e s => C13_0 σ s i1 a0 ∧ eP e 1 i1 ∧ eI e 9 v89 ∧ eB e 142 (decide (y113 < ((List.length a0.inputs : Nat) : Int))) ∧ Pre σ s) ?_ ?_
    ·have q8 := cj5 E1 E10 X1.get X10.get TT;refine zn 7 0 q8 ?_;refine S1 _ _ _ h114 _ _  ?_;refine Jv q8 ?_ ;refine za q8 ?_;exact qe ⟨X1, E1, E9, (xv q8), hP⟩
    rintro e s ⟨X1, E1, E9, E142, hP⟩
    rcases qi h94 with ⟨hb115, h94⟩ | ⟨hb115, h94⟩
    ·refine xt (cj2 E142 hb115) (qd (w_x Expr.rlen ?_));refine qf (qp (qw ?_));obtain rfl := qa h94;refine qB ?_;(try dsimp only at hf91);obtain rfl := qa hf91;refine zv rfl fun hr116 => ?_;obtain rfl := hr116;refine qw (qB ?_);(try dsimp only at h);obtain rfl := qa h;exact qt (fun _ => rfl) (xr (rs := #[.tmp 2]) TT) hP (.refl _) (.v _) hK
    ·refine xf (cj2 E142 hb115) (qm (qQ ?_));obtain rfl := qa h94;exact qe ⟨rfl, X1, E1, E9, hP⟩
   rintro e s ⟨rfl, X1, E1, E9, hP⟩
   (try dsimp only at hf91);refine w_x (cj2 E9 TT) ?_;obtain rfl := qa hf91;exact qZ rfl ⟨_, rfl, X1, E1, (xv (cj2 E9 TT)), hP⟩
  ·refine xf hb92 (qE (qM ?_));obtain rfl := qa hf91;refine qY rfl fun hr117 => ?_;obtain rfl := hr117;exact qK (qe ⟨rfl, hP⟩)
 rintro e s ⟨rfl, hP⟩
 (try dsimp only at h);refine qd (w_x Expr.rlen ?_);refine qf (qp ?_);obtain rfl := qa h;exact qt (fun _ => rfl) (xr (rs := #[.tmp 2]) TT) hP (.refl _) (.v _) hK
end Go.Proofs.Ytohmmfimedgccaa.E
end
section
namespace Go.Proofs.Ytohmmfimedgccaa.E
set_option linter.unusedVariables false
set_option linter.unusedSimpArgs false
set_option maxRecDepth 10000
theorem QC {n : Nat} (hlen : n ≤ maxLen) {f : Int → Option (Int ⊕ (Bool ⊕ Unit))} (Q : Nat → Prop)
  (step : ∀ i (hi : i < n), (f i = some (.inr (.inl false)) ∧ ¬ Q i) ∨ (f i = some (.inl (IntKind.i64.wrap ((i : Int) + 1))) ∧ Q i)) (fin : f (n : Int) = some (.inr (.inr ()))) : ∃ r, qy f 0 = some r ∧ ((r = .inl false ∧ ¬ ∀ i, i < n → Q i) ∨ (r = .inr () ∧ ∀ i, i < n → Q i)) := by
 refine qT (v0 := (0 : Int)) (fun i v => v = (i : Int) ∧ ∀ j, j < i → Q j) n (fun r : Bool ⊕ Unit => (r = .inl false ∧ ¬ ∀ i, i < n → Q i) ∨ (r = .inr () ∧ ∀ i, i < n → Q i)) (fun i v hi hv => ?_) (fun v hv => ?_) ⟨rfl, fun j h => by omega⟩
 ·obtain ⟨rfl, h2⟩ := hv;rcases step i hi with ⟨h, hq⟩ | ⟨h, hq⟩
  ·exact .inr ⟨_, h, .inl ⟨rfl, fun hh => hq (hh i hi)⟩⟩
  ·refine .inl ⟨_, h, zA hi hlen, fun j hj => ?_⟩;by_cases hji : j = i
   ·subst hji; exact hq
   ·exact h2 j (by omega)
 ·obtain ⟨rfl, h2⟩ := hv;exact ⟨_, fin, .inr ⟨rfl, h2⟩⟩
theorem zZ {W : Type} {n : Nat} (hlen : n ≤ maxLen) {f : Int → Option (Int ⊕ (W ⊕ Unit))} (Q : Nat → Prop) (g : Nat → W)
  (step : ∀ i (hi : i < n), (f i = some (.inr (.inl (g i))) ∧ Q i) ∨ (f i = some (.inl (IntKind.i64.wrap ((i : Int) + 1))) ∧ ¬ Q i)) (fin : f (n : Int) = some (.inr (.inr ()))) : ∃ r, qy f 0 = some r ∧ ((∃ i, i < n ∧ r = .inl (g i) ∧ Q i ∧ ∀ j, j < i → ¬ Q j) ∨ (r = .inr () ∧ ∀ i, i < n → ¬ Q i)) := by
 refine qT (v0 := (0 : Int)) (fun i v => v = (i : Int) ∧ ∀ j, j < i → ¬ Q j) n (fun r : W ⊕ Unit => (∃ i, i < n ∧ r = .inl (g i) ∧ Q i ∧ ∀ j, j < i → ¬ Q j) ∨ (r = .inr () ∧ ∀ i, i < n → ¬ Q i)) (fun i v hi hv => ?_) (fun v hv => ?_) ⟨rfl, fun j h => by omega⟩
 ·obtain ⟨rfl, h2⟩ := hv;rcases step i hi with ⟨h, hq⟩ | ⟨h, hq⟩
  ·exact .inr ⟨_, h, .inl ⟨i, hi, rfl, hq, h2⟩⟩
  ·refine .inl ⟨_, h, zA hi hlen, fun j hj => ?_⟩;by_cases hji : j = i
   ·subst hji; exact hq
   ·exact h2 j (by omega)
 ·obtain ⟨rfl, h2⟩ := hv;exact ⟨_, fin, .inr ⟨rfl, h2⟩⟩
def Ix (l : List ByteArray) (k : ByteArray) (r : Int) : Prop := (∃ i : Nat, r = (i : Int) ∧ l[i]? = some k ∧ ∀ j, j < i → l[j]? ≠ some k) ∨ (r = -1 ∧ k ∉ l)
theorem Ix.neg {l : List ByteArray} {k : ByteArray} {r : Int} (h : Ix l k r) : r < 0 ↔ k ∉ l := by
 rcases h with ⟨i, rfl, h1, _⟩ | ⟨rfl, h⟩
 ·exact ⟨fun h => by omega, fun h => absurd (List.mem_of_getElem? h1) h⟩
 ·exact ⟨fun _ => h, fun _ => by omega⟩
theorem Ix.eq {l : List ByteArray} {k : ByteArray} {r : Int} (h : Ix l k r) {i : Nat} (hi : l[i]? = some k) : r = (i : Int) ↔ ∀ j, j < i → l[j]? ≠ some k := by
 rcases h with ⟨m, rfl, h1, h2⟩ | ⟨rfl, h⟩
 ·constructor
  ·intro h;obtain rfl : m = i := by omega
   exact h2
  ·intro h;rcases Nat.lt_trichotomy m i with hlt | he | hgt
   ·exact absurd h1 (h m hlt)
   ·omega
   ·exact absurd hi (h2 i hgt)
 ·exact absurd (List.mem_of_getElem? hi) h
theorem JZ {l : List ByteArray} : l.Nodup ↔ ∀ i, i < l.length → ∀ j, j < i → l[j]? ≠ l[i]? := by
 rw [List.Nodup, List.pairwise_iff_getElem];constructor
 ·intro h i hi j hj he;rw [List.getElem?_eq_getElem hi, List.getElem?_eq_getElem (by omega)] at he;exact h j i (by omega) hi hj (Option.some.inj he)
 ·intro h i j hi hj hij he;refine h j hj i hij ?_;rw [List.getElem?_eq_getElem hi, List.getElem?_eq_getElem hj, he]
def zf (p : Program) : List ByteArray := p.nodes.map (·.name)
noncomputable def JH := B_ref06_Node
theorem s_rnode : Sat_ref06_Node JH := W_ref06_Node
theorem t_rnode {p : Program} (hl : p.nodes.length ≤ 40) (k : ByteArray) : ∃ r, JH p k = some r ∧ Ix (zf p) k r := by
 have hbig : (40 : Nat) ≤ maxLen := by unfold maxLen; decide
 have hat : ∀ i (hi : i < p.nodes.length), (zf p)[i]? = some p.nodes[i].name := fun i hi => by simp [zf, hi]
 obtain ⟨r, h1, h2⟩ := zZ (n := p.nodes.length) (by omega) (f := ZI p k) (fun i => (zf p)[i]? = some k) (fun i => (i : Int)) (fun i hi => by
  unfold ZI;simp only [dlt hi, if_true, qx hi, Option.bind_some, hat i hi, Option.some.injEq];by_cases hk : p.nodes[i].name = k
  ·exact .inl ⟨by simp [hk], hk⟩
  ·exact .inr ⟨by simp [hk], hk⟩) (by
  unfold ZI;simp only [dge, Bool.false_eq_true, if_false])
 unfold JH B_ref06_Node;rw [h1];rcases h2 with ⟨i, hi, rfl, hq, hj⟩ | ⟨rfl, hn⟩
 ·exact ⟨_, rfl, .inl ⟨i, rfl, hq, hj⟩⟩
 ·refine ⟨_, rfl, .inr ⟨rfl, fun hm => ?_⟩⟩;obtain ⟨i, hi⟩ := List.getElem?_of_mem hm;exact hn i (by have := (List.getElem?_eq_some_iff.1 hi).1; simpa [zf] using this) hi
def zr (p : Program) : List ByteArray := zc p ++ zu p
theorem zzZ {p : Program} {i : Nat} (hi : i < p.inputs.length) : (zr p)[i]? = some p.inputs[i].name := by
 unfold zr;rw [List.getElem?_append_left (by simpa [zc] using hi)];simp [zc, hi]
theorem QQa {p : Program} {i : Nat} (hi : i < p.flows.length) : (zr p)[p.inputs.length + i]? = some p.flows[i].name := by
 unfold zr;have : (zc p).length = p.inputs.length := by simp [zc]
 rw [List.getElem?_append_right (by omega), this, Nat.add_sub_cancel_left];simp [zu, hi]
theorem names_len (p : Program) : (zr p).length = p.inputs.length + p.flows.length := by simp [zr, zc, zu]
noncomputable def JI := B_ref06_Flow
theorem s_rflow : Sat_ref06_Flow JI := W_ref06_Flow
theorem zzG {p : Program} (hl : p.inputs.length + p.flows.length ≤ 40) (k : ByteArray) : ∃ r, JI p k = some r ∧ Ix (zr p) k r := by
 have hbig : (40 : Nat) ≤ maxLen := by unfold maxLen; decide
 obtain ⟨r, h1, h2⟩ := zZ (n := p.inputs.length) (by omega) (f := ZK p k) (fun i => (zr p)[i]? = some k) (fun i => (i : Int)) (fun i hi => by
  unfold ZK;simp only [dlt hi, if_true, qx hi, Option.bind_some, zzZ hi, Option.some.injEq];by_cases hk : p.inputs[i].name = k
  ·exact .inl ⟨by simp [hk], hk⟩
  ·exact .inr ⟨by simp [hk], hk⟩) (by
  unfold ZK;simp only [dge, Bool.false_eq_true, if_false])
 obtain ⟨r', h3, h4⟩ := zZ (n := p.flows.length) (by omega) (f := ZJ p k) (fun i => (zr p)[p.inputs.length + i]? = some k) (fun i => ((p.inputs.length + i : Nat) : Int)) (fun i hi => by
  unfold ZJ;simp only [dlt hi, if_true, qx hi, Option.bind_some, QQa hi, Option.some.injEq];rw [zT (n := (p.inputs.length : Int) + i) (by omega) (by omega)];by_cases hk : p.flows[i].name = k
  ·exact .inl ⟨by simp [hk], hk⟩
  ·exact .inr ⟨by simp [hk], hk⟩) (by
  unfold ZJ;simp only [dge, Bool.false_eq_true, if_false])
 unfold JI B_ref06_Flow;rw [h1];rcases h2 with ⟨i, hi, rfl, hq, hj⟩ | ⟨rfl, hn⟩
 ·exact ⟨_, rfl, .inl ⟨i, rfl, hq, hj⟩⟩
 ·simp only [Option.bind_some];rw [h3];rcases h4 with ⟨i, hi, rfl, hq, hj⟩ | ⟨rfl, hn'⟩
  ·refine ⟨_, rfl, .inl ⟨_, rfl, hq, fun j hlt => ?_⟩⟩;by_cases hji : j < p.inputs.length
   ·exact hn j hji
   ·have := hj (j - p.inputs.length) (by omega)
    rwa [show p.inputs.length + (j - p.inputs.length) = j by omega] at this
  ·refine ⟨_, rfl, .inr ⟨rfl, fun hm => ?_⟩⟩;obtain ⟨i, hi⟩ := List.getElem?_of_mem hm;have hlt := (List.getElem?_eq_some_iff.1 hi).1;rw [names_len] at hlt;by_cases hji : i < p.inputs.length
   ·exact hn i hji hi
   ·refine hn' (i - p.inputs.length) (by omega) ?_;rw [show p.inputs.length + (i - p.inputs.length) = i by omega];exact hi
noncomputable def qqV := B_ref06_param
theorem s_rparam : Sat_ref06_param qqV := W_ref06_param
theorem t_rparam {n : Node} (hl : n.params.length ≤ 40) (k : ByteArray) : ∃ b, qqV n k = some b ∧ (b = true ↔ k ∈ n.params) := by
 have hbig : (40 : Nat) ≤ maxLen := by unfold maxLen; decide
 obtain ⟨r, h1, h2⟩ := zZ (n := n.params.length) (by omega) (f := QZ n k) (fun i => n.params[i]? = some k) (fun _ => true) (fun i hi => by
  unfold QZ;simp only [dlt hi, if_true, qx hi, Option.bind_some, List.getElem?_eq_getElem hi, Option.some.injEq];by_cases hk : n.params[i] = k
  ·exact .inl ⟨by simp [hk], hk⟩
  ·exact .inr ⟨by simp [hk], hk⟩) (by
  unfold QZ;simp only [dge, Bool.false_eq_true, if_false])
 unfold qqV B_ref06_param;rw [h1];rcases h2 with ⟨i, hi, rfl, hq, hj⟩ | ⟨rfl, hn⟩
 ·exact ⟨_, rfl, by simp [List.mem_of_getElem? hq]⟩
 ·refine ⟨_, rfl, ⟨fun h => by simp at h, fun hm => ?_⟩⟩;obtain ⟨i, hi⟩ := List.getElem?_of_mem hm;exact absurd hi (hn i (List.getElem?_eq_some_iff.1 hi).1)
theorem Jr {α : Type} {l : List α} {P : α → Prop} : (∀ i, i < l.length → ∀ x, l[i]? = some x → P x) ↔ ∀ x ∈ l, P x := by
 constructor
 ·intro h x hx;obtain ⟨i, hi⟩ := List.getElem?_of_mem hx;exact h i (List.getElem?_eq_some_iff.1 hi).1 x hi
 ·intro h i _ x hx;exact h x (List.mem_of_getElem? hx)
theorem QQq {l : List Expr} {x : Expr} : x ∈ Yz l ↔ ∃ e ∈ l, x ∈ ZQ e := by
 induction l with
 | nil => simp [Yz]
 | cons e l ih => rw [Yz, List.mem_append, ih]; simp
theorem zzu {l : List Expr} {x : Expr} : x ∈ Zz l ↔ ∃ e ∈ l, x ∈ zC e := by
 induction l with
 | nil => simp [Zz]
 | cons e l ih => rw [Zz, List.mem_append, ih]; simp
def pRB (x : Node × Expr) (r : Bool) : Prop := Sp_ref06_body x.1 x.2 r ∧ (r = true ↔ ∀ y ∈ ZQ x.2, y.name ∈ x.1.params)
noncomputable def Yc (n : Node) (e : Expr) : Option Bool := pick pRB (n, e)
theorem s_rbody : Sat_ref06_body Yc := fun _ _ _ h => (Qt h).1
theorem t_rbody {n : Node} (hl : n.params.length ≤ 40) (e : Expr) : e.bfit → zJ e ≤ 1000 → ∃ r, Yc n e = some r ∧ pRB (n, e) r := by
 induction e using Expr.induct with
 | h e ih =>
  intro hb hs;refine QM ?_;have hse := Qx e;have hge := zzU e.args;obtain ⟨b, hp, hpi⟩ := t_rparam hl e.name;have hB : ∃ r, B_ref06_body Yc qqV n e = some r ∧ (r = true ↔ ∀ y ∈ ZQ e, y.name ∈ n.params) := by
   unfold B_ref06_body;by_cases k : e.kind = 11
   ·have hargs := hb.leaf k;have hn : ZQ e = [e] := by rw [namesE_eq, if_pos k]
    simp only [k, decide_true, if_true, hp, Option.bind_some, Bool.true_and, hn, List.mem_singleton, forall_eq];cases b with
    | false => exact ⟨false, rfl, by simpa using hpi⟩
    | true =>
     have h0 : qy (Qy n e Yc) (0 : Int) = some (.inr ()) := QO (by
      unfold Qy;rw [hargs];simp)
     rw [h0];exact ⟨true, rfl, by simpa using hpi⟩
   ·have hn : ZQ e = Yz e.args := by rw [namesE_eq, if_neg k]
    obtain ⟨r, h1, h2⟩ := QC (n := e.args.length) (by unfold maxLen; omega) (f := Qy n e Yc) (fun i => ∀ x, e.args[i]? = some x → ∀ y ∈ ZQ x, y.name ∈ n.params) (fun i hi => by
     unfold Qy;have hmem := List.getElem_mem hi;have hsm := Zu hmem;obtain ⟨r, h5, _, h6⟩ := ih _ hmem (hb.arg _ hmem) (by omega);simp only [dlt hi, if_true, qx hi, Option.bind_some, h5, List.getElem?_eq_getElem hi, Option.some.injEq, forall_eq'];cases r with
     | false => exact .inl ⟨rfl, fun h => by have := h6.2 h; cases this⟩
     | true => exact .inr ⟨rfl, h6.1 rfl⟩) (by
     unfold Qy;simp only [dge, Bool.false_eq_true, if_false])
    simp only [decide_eq_false k, Bool.false_eq_true, if_false, Option.bind_some, Bool.false_and];rw [h1, hn];have hall : (∀ i, i < e.args.length → ∀ x, e.args[i]? = some x → ∀ y ∈ ZQ x, y.name ∈ n.params) ↔ ∀ y ∈ Yz e.args, y.name ∈ n.params := by
     rw [Jr (P := fun x => ∀ y ∈ ZQ x, y.name ∈ n.params)];constructor
     ·intro h y hy;obtain ⟨x, hx, hxy⟩ := QQq.1 hy;exact h x hx y hxy
     ·intro h x hx y hy;exact h y (QQq.2 ⟨x, hx, hy⟩)
    rw [hall] at h2;rcases h2 with ⟨rfl, h2⟩ | ⟨rfl, h2⟩
    ·exact ⟨false, rfl, ⟨fun h => (by cases h), fun h => absurd h h2⟩⟩
    ·exact ⟨true, rfl, ⟨fun _ => h2, fun _ => rfl⟩⟩
  obtain ⟨r, hr, hi⟩ := hB;exact ⟨r, W_ref06_body _ _ s_rbody s_rparam _ _ _ hr, hi⟩
def okR (p : Program) (x : Expr) : Prop := (x.kind = 1 → x.name ∈ zr p) ∧ (x.kind = 2 → ∃ (i : Nat) (n : Node), p.nodes[i]? = some n ∧ n.name = x.name ∧ (∀ j, j < i → (zf p)[j]? ≠ some x.name) ∧ n.params.length = x.args.length)
def pRE (x : Program × Expr) (r : Bool) : Prop := Sp_ref06_expr x.1 x.2 r ∧ (r = true ↔ ∀ y ∈ zC x.2, okR x.1 y)
noncomputable def Yb (p : Program) (e : Expr) : Option Bool := pick pRE (p, e)
theorem s_rexpr : Sat_ref06_expr Yb := fun _ _ _ h => (Qt h).1
theorem t_rexpr {p : Program} (hl : p.nodes.length ≤ 40) (hl2 : p.inputs.length + p.flows.length ≤ 40) (e : Expr) : zJ e ≤ 1000 → ∃ r, Yb p e = some r ∧ pRE (p, e) r := by
 induction e using Expr.induct with
 | h e ih =>
  intro hs;refine QM ?_;have hse := Qx e;have hge := zzU e.args;obtain ⟨rf, hf1, hf2⟩ := zzG hl2 e.name;obtain ⟨rn, hn1, hn2⟩ := t_rnode hl e.name;obtain ⟨r, h1, h2⟩ := QC (n := e.args.length) (by unfold maxLen; omega) (f := QK p e Yb) (fun i => ∀ x, e.args[i]? = some x → ∀ y ∈ zC x, okR p y) (fun i hi => by
   unfold QK;have hmem := List.getElem_mem hi;have hsm := Zu hmem;obtain ⟨r, h5, _, h6⟩ := ih _ hmem (by omega);simp only [dlt hi, if_true, qx hi, Option.bind_some, h5, List.getElem?_eq_getElem hi, Option.some.injEq, forall_eq'];cases r with
   | false => exact .inl ⟨rfl, fun h => by have := h6.2 h; cases this⟩
   | true => exact .inr ⟨rfl, h6.1 rfl⟩) (by
   unfold QK;simp only [dge, Bool.false_eq_true, if_false])
  have hall : (∀ i, i < e.args.length → ∀ x, e.args[i]? = some x → ∀ y ∈ zC x, okR p y) ↔ ∀ y ∈ Zz e.args, okR p y := by
   rw [Jr (P := fun x => ∀ y ∈ zC x, okR p y)];constructor
   ·intro h y hy;obtain ⟨x, hx, hxy⟩ := zzu.1 hy;exact h x hx y hxy
   ·intro h x hx y hy;exact h y (zzu.2 ⟨x, hx, hy⟩)
  rw [hall] at h2;have hsub : (∀ y ∈ zC e, okR p y) ↔ okR p e ∧ ∀ y ∈ Zz e.args, okR p y := by
   rw [Qw];simp only [List.mem_cons, forall_eq_or_imp]
  have hB : ∃ r, B_ref06_expr JH JI Yb p e = some r ∧ (r = true ↔ ∀ y ∈ zC e, okR p y) := by
   rw [hsub];unfold B_ref06_expr;have rest : okR p e → ∃ r, ((qy (QK p e Yb) (0 : Int) : Option (Bool ⊕ Unit)).bind fun x => match x with
     | .inl r => some r
     | .inr _ => some true) = some r ∧ (r = true ↔ okR p e ∧ ∀ y ∈ Zz e.args, okR p y) := fun hok => by
    rw [h1];rcases h2 with ⟨rfl, h2⟩ | ⟨rfl, h2⟩
    ·exact ⟨false, rfl, ⟨fun h => (by cases h), fun h => absurd h.2 h2⟩⟩
    ·exact ⟨true, rfl, ⟨fun _ => ⟨hok, h2⟩, fun _ => rfl⟩⟩
   have no : ¬ okR p e → ((false = true) ↔ okR p e ∧ ∀ y ∈ Zz e.args, okR p y) := fun h => ⟨fun h => (by cases h), fun hh => absurd hh.1 h⟩;by_cases k1 : e.kind = 1
   ·simp only [k1, decide_true, if_true, hf1, Option.bind_some, Bool.true_and, Int.reduceEq, decide_false, Bool.false_eq_true, if_false];by_cases hn : e.name ∈ zr p
    ·have : ¬ rf < 0 := fun h => hf2.neg.1 h hn;simp only [decide_eq_false this, Bool.false_eq_true, if_false];exact rest ⟨fun _ => hn, fun h => by omega⟩
    ·simp only [decide_eq_true (hf2.neg.2 hn), if_true];exact ⟨false, rfl, no fun h => hn (h.1 k1)⟩
   ·by_cases k2 : e.kind = 2
    ·simp only [k2, decide_true, if_true, Option.bind_some, Int.reduceEq, decide_false, Bool.false_eq_true, if_false, Bool.false_and, hn1];rcases hn2 with ⟨i, rfl, hi, hj⟩ | ⟨rfl, hm⟩
     ·have hi' : i < p.nodes.length := by have := (List.getElem?_eq_some_iff.1 hi).1; simpa [zf] using this
      have hname : p.nodes[i].name = e.name := by simpa [zf, hi'] using hi
      have hneg : ¬ (i : Int) < 0 := by omega
      simp only [decide_eq_false hneg, Bool.false_eq_true, if_false, qx hi', Option.bind_some, Bool.false_or];by_cases hlen : p.nodes[i].params.length = e.args.length
      ·have : ((p.nodes[i].params.length : Nat) : Int) = (e.args.length : Int) := by omega
       simp only [this, decide_true, Bool.not_true, Bool.false_eq_true, if_false, Option.bind_some];exact rest ⟨fun h => absurd h k1, fun _ => ⟨i, _, List.getElem?_eq_getElem hi', hname, hj, hlen⟩⟩
      ·have : ¬ ((p.nodes[i].params.length : Nat) : Int) = (e.args.length : Int) := by omega
       simp only [decide_eq_false this, Bool.not_false, if_true, Option.bind_some];refine ⟨false, rfl, no fun h => ?_⟩;obtain ⟨i', n, h3, h4, h5, h6⟩ := h.2 k2;have hi2 := (List.getElem?_eq_some_iff.1 h3).1;have hat : (zf p)[i']? = some e.name := by simp [zf, h3, h4]
       have : i' = i := by
        rcases Nat.lt_trichotomy i' i with hlt | he | hgt
        ·exact absurd hat (hj i' hlt)
        ·exact he
        ·exact absurd hi (h5 i hgt)
       subst this;rw [List.getElem?_eq_getElem hi'] at h3;injection h3 with h3;subst h3;exact hlen h6
     ·simp only [show decide ((-1 : Int) < 0) = true from rfl, if_true, Option.bind_some, Bool.true_or];refine ⟨false, rfl, no fun h => ?_⟩;obtain ⟨i', n, h3, h4, _⟩ := h.2 k2;exact hm (by rw [← h4]; exact List.mem_map_of_mem (List.mem_of_getElem? h3))
    ·simp only [decide_eq_false k1, decide_eq_false k2, Bool.false_eq_true, if_false, Option.bind_some, Bool.false_and];exact rest ⟨fun h => absurd h k1, fun h => absurd h k2⟩
  obtain ⟨r, hr, hi⟩ := hB;exact ⟨r, W_ref06_expr _ _ _ s_rnode s_rflow s_rexpr _ _ _ hr, hi⟩
def Le (m m' : Mp Clock) : Prop := ∀ k c, m.get k = some c → m'.get k = some c
theorem Le.refl (m : Mp Clock) : Le m m := fun _ _ h => h
theorem Le.trans {a b c : Mp Clock} (h : Le a b) (g : Le b c) : Le a c := fun k x hx => g k x (h k x hx)
theorem Le.some {m m' : Mp Clock} (h : Le m m') {k : ByteArray} (hk : (m.get k).isSome = true) : (m'.get k).isSome = true := by
 cases hx : m.get k with
 | none => rw [hx] at hk; cases hk
 | some c => rw [h k c hx]; rfl
theorem Le.put {m : Mp Clock} {k : ByteArray} (h : m.get k = none) (c : Clock) : Le m (m.put k c) := fun x d hx => by
 simp only [Mp.put];by_cases e : x = k
 ·subst e; rw [h] at hx; cases hx
 ·rw [if_neg e]; exact hx
def Sub (m : Mp Clock) (ρ : ByteArray → Clock) : Prop := ∀ k c, m.get k = some c → ρ k = c
theorem Sub.put {m : Mp Clock} {ρ : ByteArray → Clock} (h : Sub m ρ) {k : ByteArray} {c : Clock} (hk : ρ k = c) : Sub (m.put k c) ρ := fun x d hx => by
 simp only [Mp.put] at hx;by_cases e : x = k
 ·subst e; rw [if_pos rfl] at hx; cases hx; exact hk
 ·rw [if_neg e] at hx; exact h x d hx
theorem Sub.at {m : Mp Clock} {ρ : ByteArray → Clock} (h : Sub m ρ) {k : ByteArray} (hk : (m.get k).isSome = true) : gdC m k = ρ k := by
 cases hx : m.get k with
 | none => rw [hx] at hk; cases hk
 | some c => unfold gdC; rw [hx, h k c hx]; rfl
def GoodC (p : Program) (ρ : ByteArray → Clock) : Prop := (∀ x ∈ p.inputs, ρ x.name = ⟨x.period, x.phase⟩) ∧ ∀ f ∈ p.flows, RefC ρ f.e (ρ f.name)
def Ord (p : Program) : Prop := ∀ (i : Nat) (f : Flow), p.flows[i]? = some f → ∀ y ∈ zC f.e, y.kind = 1 → y.name ∈ zc p ∨ ∃ (j : Nat) (g : Flow), j < i ∧ p.flows[j]? = some g ∧ g.name = y.name
def Rk (p : Program) (m : Mp Clock) : Prop := ∃ (rk : ByteArray → Nat) (N : Nat), (∀ k, (m.get k).isSome = true → rk k < N ∧ (k ∈ zc p ∨ k ∈ zu p)) ∧ ∀ f ∈ p.flows, (m.get f.name).isSome = true → Told (fun k => (m.get k).isSome = true ∧ (k ∈ zc p ∨ rk k < rk f.name)) f.e
def Rks (p : Program) : Prop := ∃ rk : ByteArray → Nat, ∀ f ∈ p.flows, Told (fun k => k ∈ zc p ∨ (k ∈ zu p ∧ rk k < rk f.name)) f.e
theorem Rk.put {p : Program} {m : Mp Clock} (hn : (zu p).Nodup) (h : Rk p m) {f : Flow} (hf : f ∈ p.flows) (h0 : m.get f.name = none) (ht : Told (fun k => (m.get k).isSome = true) f.e) (c : Clock) : Rk p (m.put f.name c) := by
 obtain ⟨rk, N, h1, h2⟩ := h;refine ⟨fun k => if k = f.name then N else rk k, N + 1, fun k hk => ?_, fun g hg hk => ?_⟩
 ·by_cases e : k = f.name
  ·subst e;exact ⟨by simp, .inr (List.mem_map.2 ⟨f, hf, rfl⟩)⟩
  ·have hk' : (m.get k).isSome = true := by simpa only [Mp.put, if_neg e] using hk
   obtain ⟨h3, h4⟩ := h1 k hk';exact ⟨by simp only [if_neg e]; omega, h4⟩
 ·have hne : ∀ k, (m.get k).isSome = true → k ≠ f.name := fun k hk e => by rw [e, h0] at hk; cases hk
  by_cases e : g.name = f.name
  ·obtain rfl : g = f := by
    obtain ⟨i, hi⟩ := List.getElem?_of_mem hg;obtain ⟨j, hj⟩ := List.getElem?_of_mem hf;have hij : i = j := (List.getElem?_inj (by simpa [zu] using (List.getElem?_eq_some_iff.1 hi).1) hn).1 (by simp [zu, hi, hj, e]);subst hij;rw [hi] at hj;injection hj
   refine ht.imp fun k hk => ⟨by simp only [Mp.put, if_neg (hne k hk)]; exact hk, .inr ?_⟩;simp only [if_neg (hne k hk), if_true];exact (h1 k hk).1
  ·have hk' : (m.get g.name).isSome = true := by simpa only [Mp.put, if_neg e] using hk
   refine (h2 g hg hk').imp fun k ⟨k1, k2⟩ => ⟨by simp only [Mp.put, if_neg (hne k k1)]; exact k1, k2.imp id fun k2 => ?_⟩;simp only [if_neg (hne k k1), if_neg e];exact k2
def U (l : List Flow) (m : Mp Clock) : Nat := l.countP fun f => (m.get f.name).isNone
theorem YQ {α : Type} {p q : α → Bool} : ∀ {l : List α}, (∀ x ∈ l, q x = true → p x = true) → l.countP q ≤ l.countP p
 | [], _ => Nat.le_refl _
 | x :: l, h => by
  rw [List.countP_cons, List.countP_cons];have := YQ (l := l) fun y hy => h y (.tail _ hy);have h2 := h x (.head _);by_cases hq : q x = true
  ·rw [if_pos hq, if_pos (h2 hq)]; omega
  ·rw [if_neg hq]; split <;> omega
theorem YP {α : Type} {p q : α → Bool} : ∀ {l : List α}, (∀ x ∈ l, q x = true → p x = true) → (∃ x ∈ l, p x = true ∧ q x = false) → l.countP q < l.countP p
 | [], _, h => by obtain ⟨x, hx, _⟩ := h; cases hx
 | x :: l, h, hx => by
  rw [List.countP_cons, List.countP_cons];have h1 := fun y hy => h y (List.mem_cons_of_mem x hy);have := YQ (l := l) h1;have h2 := h x (.head _);obtain ⟨y, hy, hp, hq⟩ := hx;rcases List.mem_cons.1 hy with rfl | hy
  ·rw [if_neg (by simp [hq]), if_pos hp]; omega
  ·have := YP h1 ⟨y, hy, hp, hq⟩;by_cases hq : q x = true
   ·rw [if_pos hq, if_pos (h2 hq)]; omega
   ·rw [if_neg hq]; split <;> omega
theorem U_le {l : List Flow} {m m' : Mp Clock} (h : Le m m') : U l m' ≤ U l m := YQ fun x _ hx => by
 cases hg : m.get x.name with
 | none => rfl
 | some c => rw [h _ _ hg] at hx; cases hx
theorem U_put {l : List Flow} {m : Mp Clock} {f : Flow} (hf : f ∈ l) (h : m.get f.name = none) (c : Clock) : U l (m.put f.name c) < U l m := YP (fun x _ hx => by
 cases hg : m.get x.name with
 | none => rfl
 | some c' => rw [Le.put h c _ _ hg] at hx; cases hx) ⟨f, hf, by rw [h]; rfl, by simp [Mp.put]⟩
theorem RefC.congr {ρ ρ' : ByteArray → Clock} {e : Expr} {c : Clock} (h : RefC ρ e c) : (∀ y ∈ zC e, y.kind = 1 → ρ y.name = ρ' y.name) → RefC ρ' e c := by
 induction h with
 | @nm e k => intro h; rw [h e (by rw [Qw]; exact .head _) k]; exact .nm k
 | call k ha _ ih => intro h; exact .call k ha fun a hm => ih a hm fun y hy => h y (by rw [Qw]; exact .tail _ (ZY hm hy))
 | op k k2 ha _ hap ih => intro h; exact .op k k2 ha (ih fun y hy => h y (by rw [Qw]; exact .tail _ (ZY (List.mem_of_getElem? ha) hy))) hap
noncomputable def qqG := B_check_solver_round Yd
theorem s_round : Sat_check_solver_round qqG := W_check_solver_round _ s_of
theorem t_round {p : Program} (hf : p.fit) {N : Nat} (hN : N ≤ 1000) (s : So) (hn : s.known.n + U p.flows s.known ≤ N) : ∃ b s', qqG s p.flows = some (b, s') ∧ St s.finder s'.finder ∧ s'.known.n + U p.flows s'.known ≤ N ∧ Le s.known s'.known ∧ (b = true → U p.flows s'.known < U p.flows s.known) ∧ (Ord p → ∀ ρ, GoodC p ρ → s.finder = f00 → (∀ k ∈ zc p, (s.known.get k).isSome = true) → Sub s.known ρ → s'.finder = f00 ∧ Sub s'.known ρ ∧ ∀ f ∈ p.flows, (s'.known.get f.name).isSome = true) ∧ ((zu p).Nodup → Rk p s.known → Rk p s'.known) := by
 have hall := hf.all;have hbig : (40 : Nat) ≤ maxLen := by unfold maxLen; decide
 obtain ⟨⟨b, s', m'⟩, h1, h2⟩ := qT (f := Qb p.flows Yd) (fun i v => v.2.1 = (i : Int) ∧ St s.finder v.2.2.1.finder ∧ v.2.2.2.n + U p.flows v.2.2.2 ≤ N ∧ Le s.known v.2.2.2 ∧ (v.1 = true → U p.flows v.2.2.2 < U p.flows s.known) ∧ (Ord p → ∀ ρ, GoodC p ρ → s.finder = f00 → (∀ k ∈ zc p, (s.known.get k).isSome = true) → Sub s.known ρ → v.2.2.1.finder = f00 ∧ Sub v.2.2.2 ρ ∧ ∀ j, j < i → ∀ f, p.flows[j]? = some f → (v.2.2.2.get f.name).isSome = true) ∧ ((zu p).Nodup → Rk p s.known → Rk p v.2.2.2)) p.flows.length
  (fun r : Bool × So × Mp Clock => St s.finder r.2.1.finder ∧ r.2.2.n + U p.flows r.2.2 ≤ N ∧ Le s.known r.2.2 ∧ (r.1 = true → U p.flows r.2.2 < U p.flows s.known) ∧ (Ord p → ∀ ρ, GoodC p ρ → s.finder = f00 → (∀ k ∈ zc p, (s.known.get k).isSome = true) → Sub s.known ρ → r.2.1.finder = f00 ∧ Sub r.2.2 ρ ∧ ∀ j, j < p.flows.length → ∀ f, p.flows[j]? = some f → (r.2.2.get f.name).isSome = true) ∧ ((zu p).Nodup → Rk p s.known → Rk p r.2.2)) (fun i v hi hv => by
   obtain ⟨b, _, vs, m⟩ := v;obtain ⟨rfl, hst, hm, hle, hb, hH, hR⟩ := hv;simp only at hst hm hle hb hH;unfold Qb;have hmem := List.getElem_mem hi;have hat := List.getElem?_eq_getElem hi;simp only [dlt hi, if_true, qx hi, Option.bind_some];by_cases hc : (m.get p.flows[i].name).isSome = true ∨ vs.finder.e ≠ 0
   ·have hcond : ((m.get p.flows[i].name).isSome || !decide (vs.finder.e = 0)) = true := by
     rcases hc with h | h
     ·rw [h]; rfl
     ·simp [h]
    simp only [hcond, if_true, Option.bind_some];refine .inl ⟨_, rfl, zA hi (by omega), hst, hm, hle, hb, fun ho ρ hg h0 hin hs => ?_, hR⟩;obtain ⟨g1, g2, g3⟩ := hH ho ρ hg h0 hin hs;refine ⟨g1, g2, fun j hj f hf => ?_⟩;by_cases hji : j < i
    ·exact g3 j hji f hf
    ·obtain rfl : j = i := by omega
     rw [hat] at hf;injection hf with hf;subst hf;rcases hc with h | h
     ·exact h
     ·exact absurd (by rw [g1]; rfl) h
   ·obtain ⟨hc1, hc2⟩ := not_or.1 hc;have hnone : m.get p.flows[i].name = none := by
     cases hx : m.get p.flows[i].name with
     | none => rfl
     | some c => rw [hx] at hc1; exact absurd rfl hc1
    have hcond : ((m.get p.flows[i].name).isSome || !decide (vs.finder.e = 0)) = false := by
     rw [hnone];simpa using hc2
    obtain ⟨⟨⟨c, b'⟩, s2⟩, h3, p1, p2, p3, p4, p5, p6⟩ := t_of _ (hf.flow _ hmem).e ⟨vs.finder, m⟩;simp only at p1 p2 p3 p4 p5;have hstay : Ord p → ∀ ρ, GoodC p ρ → s.finder = f00 → (∀ k ∈ zc p, (s.known.get k).isSome = true) → Sub s.known ρ → ((c, b'), s2) = ((ρ p.flows[i].name, true), (⟨vs.finder, m⟩ : So)) := fun ho ρ hg h0 hin hs => by
     obtain ⟨g1, g2, g3⟩ := hH ho ρ hg h0 hin hs;have hk : Kn m p.flows[i].e := fun y hy k => by
      rcases ho i _ hat y hy k with h | ⟨j, g, hj, hg, he⟩
      ·exact hle.some (hin _ h)
      ·rw [← he]; exact g3 j hj g hg
     refine p5 (by rw [g1]; rfl) hk _ ((hg.2 _ hmem).of.congr fun y hy k => (g2.at (hk y hy k)).symm)
    simp only [hcond, Bool.false_eq_true, if_false, h3, Option.bind_some];cases b' with
    | true =>
     have hput : Jm s2.known p.flows[i].name c = some (m.put p.flows[i].name c) := by
      unfold Jm;rw [p1, if_pos (by omega)]
     simp only [if_true, hput, Option.bind_some];have hu := U_put hmem hnone c;refine .inl ⟨_, rfl, zA hi (by omega), hst.trans p2, ?_, hle.trans (Le.put hnone c), fun _ => ?_, fun ho ρ hg h0 hin hs => ?_, fun hn hr => (hR hn hr).put hn hmem hnone (p6 rfl) c⟩
     ·show (m.put p.flows[i].name c).n + _ ≤ N;have : (m.put p.flows[i].name c).n = m.n + 1 := rfl;simp only;omega
     ·have := U_le (l := p.flows) hle;simp only;omega
     ·obtain ⟨g1, g2, g3⟩ := hH ho ρ hg h0 hin hs;have h7 := hstay ho ρ hg h0 hin hs;simp only [Prod.mk.injEq] at h7;obtain ⟨⟨rfl, -⟩, rfl⟩ := h7;refine ⟨g1, g2.put rfl, fun j hj f hf => ?_⟩;by_cases hji : j < i
      ·exact (Le.put hnone _).some (g3 j hji f hf)
      ·obtain rfl : j = i := by omega
       rw [hat] at hf;injection hf with hf;subst hf;simp [Mp.put]
    | false =>
     simp only [Bool.false_eq_true, if_false, p1, Option.bind_some];refine .inl ⟨_, rfl, zA hi (by omega), hst.trans p2, hm, hle, hb, fun ho ρ hg h0 hin hs => ?_, hR⟩;have h7 := hstay ho ρ hg h0 hin hs;simp at h7) (fun v hv => by
   obtain ⟨b, _, vs, m⟩ := v;obtain ⟨rfl, hst, hm, hle, hb, hH, hR⟩ := hv;simp only at hst hm hle hb hH;unfold Qb;simp only [dge, Bool.false_eq_true, if_false];exact ⟨_, rfl, hst, hm, hle, hb, hH, hR⟩) (v0 := (false, (0 : Int), (⟨s.finder, s.known⟩ : So), s.known)) ⟨rfl, St.refl _, hn, Le.refl _, fun h => (by cases h), fun _ ρ _ h0 _ hs => ⟨h0, hs, fun j hj => by omega⟩, fun _ hr => hr⟩
 obtain ⟨g1, g2, g3, g4, g5, g6⟩ := h2;unfold qqG B_check_solver_round;rw [h1];refine ⟨_, _, rfl, g1, g2, g3, g4, fun ho ρ hg h0 hin hs => ?_, g6⟩;obtain ⟨k1, k2, k3⟩ := g5 ho ρ hg h0 hin hs;refine ⟨k1, k2, fun f hf => ?_⟩;obtain ⟨j, hj⟩ := List.getElem?_of_mem hf;exact k3 j (List.getElem?_eq_some_iff.1 hj).1 f hj
noncomputable def qqk := B_check_Clocks qqG YY Yd m_fs
theorem s_clocks : Sat_check_Clocks qqk := W_check_Clocks _ _ _ _ s_round s_calls s_of s_fs
def Has (p : Program) (m : Mp Clock) : Prop := ∀ x ∈ p.inputs, m.get x.name = some ⟨x.period, x.phase⟩
theorem t_clocks {p : Program} (hf : p.fit) (hS : NamesS p) : ∃ cs a e, qqk p = some (cs, a, e) ∧ (e = 0 ∨ bad e) ∧ (e ≠ 0 → cs = []) ∧ (e = 0 → ∃ ρ, GoodC p ρ ∧ cs = p.flows.map fun f => ρ f.name) ∧ (Ord p → ∀ ρ, GoodC p ρ → e = 0 ∧ cs = p.flows.map fun f => ρ f.name) ∧ (e = 0 → Rks p) := by
 have hall := hf.all;have hbig : (40 : Nat) ≤ maxLen := by unfold maxLen; decide
 have hfn : (zu p).Nodup := (List.nodup_append.1 hS.flows).2.1;have hind : (zc p).Nodup := (List.nodup_append.1 hS.flows).1;have hat : ∀ i (hi : i < p.inputs.length), (zc p)[i]? = some p.inputs[i].name := fun i hi => by simp [zc, hi]
 -- the inputs
 obtain ⟨⟨m0, s0⟩, h0, hm0, hn0, hk0, hs0, hf0⟩ := qT (f := Qv p) (fun i v => v.1 = (i : Int) ∧ (∀ j, j < i → ∀ x, p.inputs[j]? = some x → v.2.1.get x.name = some ⟨x.period, x.phase⟩) ∧ v.2.1.n ≤ i ∧ (∀ k, (v.2.1.get k).isSome = true → ∃ j, j < i ∧ (zc p)[j]? = some k) ∧ (∀ ρ, GoodC p ρ → Sub v.2.1 ρ) ∧ v.2.2.finder = f00) p.inputs.length
  (fun r : Mp Clock × So => Has p r.1 ∧ r.1.n ≤ p.inputs.length ∧ (∀ k, (r.1.get k).isSome = true → ∃ j, j < p.inputs.length ∧ (zc p)[j]? = some k) ∧ (∀ ρ, GoodC p ρ → Sub r.1 ρ) ∧ r.2.finder = f00) (fun i v hi hv => by
   obtain ⟨_, m, vs⟩ := v;obtain ⟨rfl, hm, hn, hk, hs, hf0⟩ := hv;simp only at hm hn hk hs hf0;unfold Qv;have hput : Jm m p.inputs[i].name ⟨p.inputs[i].period, p.inputs[i].phase⟩ = some (m.put p.inputs[i].name ⟨p.inputs[i].period, p.inputs[i].phase⟩) := by
    unfold Jm;rw [if_pos (by omega)]
   simp only [dlt hi, if_true, qx hi, hput, Option.bind_some];refine .inl ⟨_, rfl, zA hi (by omega), fun j hj x hx => ?_, ?_, fun k hk' => ?_, fun ρ hg => (hs ρ hg).put (hg.1 _ (List.getElem_mem hi)), hf0⟩
   ·simp only [Mp.put];by_cases hji : j < i
    ·have hne : x.name ≠ p.inputs[i].name := fun h => by
      have h2 := JZ.1 hind i (by simpa [zc] using hi) j hji;rw [hat i hi] at h2;exact h2 (by simp [zc, hx, h])
     rw [if_neg hne];exact hm j hji x hx
    ·obtain rfl : j = i := by omega
     rw [List.getElem?_eq_getElem hi] at hx;injection hx with hx;subst hx;rw [if_pos rfl]
   ·simp only [Mp.put]; omega
   ·simp only [Mp.put] at hk';by_cases h : k = p.inputs[i].name
    ·exact ⟨i, by omega, by rw [hat i hi, h]⟩
    ·rw [if_neg h] at hk';obtain ⟨j, hj, h2⟩ := hk k hk';exact ⟨j, by omega, h2⟩) (fun v hv => by
   obtain ⟨_, m, vs⟩ := v;obtain ⟨rfl, hm, hn, hk, hs, hf0⟩ := hv;simp only at hm hn hk hs hf0;unfold Qv;simp only [dge, Bool.false_eq_true, if_false];refine ⟨_, rfl, fun x hx => ?_, hn, hk, hs, hf0⟩;obtain ⟨j, hj⟩ := List.getElem?_of_mem hx;exact hm j (List.getElem?_eq_some_iff.1 hj).1 x hj) (v0 := ((0 : Int), (Mp.emp : Mp Clock), (⟨f00, Mp.emp⟩ : So))) ⟨rfl, fun j hj => by omega, Nat.le_refl _, fun k h => (by cases h), fun ρ _ k c h => (by cases h), rfl⟩
 have hin0 : ∀ k ∈ zc p, (m0.get k).isSome = true := fun k hk => by
  obtain ⟨x, hx, rfl⟩ := List.mem_map.1 hk;rw [hm0 x hx]; rfl
 have hR0 : Rk p m0 := ⟨fun _ => 0, 1, fun k hk => ⟨Nat.zero_lt_one, .inl (by obtain ⟨j, _, h2⟩ := hk0 k hk; exact List.mem_of_getElem? h2)⟩, fun f hff hk => by
  obtain ⟨j, _, h2⟩ := hk0 _ hk;exact absurd rfl ((List.nodup_append.1 hS.flows).2.2 _ (List.mem_of_getElem? h2) _ (List.mem_map.2 ⟨f, hff, rfl⟩))⟩
 -- the rounds
 have hU : U p.flows m0 ≤ p.flows.length := List.countP_le_length;obtain ⟨⟨m1, s1⟩, h1, hst1, hle1, hR1, hF1⟩ := iterO_run (f := ZW p qqG) (fun v => St f00 v.2.finder ∧ v.1.n + U p.flows v.1 ≤ 100 ∧ Le m0 v.1 ∧ Rk p v.1 ∧ (Ord p → ∀ ρ, GoodC p ρ → v.2.finder = f00 ∧ Sub v.1 ρ)) (fun v => U p.flows v.1)
  (fun r : Mp Clock × So => St f00 r.2.finder ∧ Le m0 r.1 ∧ Rk p r.1 ∧ (Ord p → ∀ ρ, GoodC p ρ → r.2.finder = f00 ∧ Sub r.1 ρ ∧ ∀ f ∈ p.flows, (r.1.get f.name).isSome = true)) (fun v hv => by
   obtain ⟨m, vs⟩ := v;obtain ⟨hst, hn, hle, hR, hF⟩ := hv;simp only at hst hn hle hR hF;unfold ZW;obtain ⟨b, s', h3, q1, q2, q3, q4, q5, q6⟩ := t_round hf (N := 100) (by omega) ⟨vs.finder, m⟩ hn;simp only at q1 q2 q3 q4 q5 q6;simp only [h3, Option.bind_some];have hR' := q6 hfn hR;have hq : Ord p → ∀ ρ, GoodC p ρ → s'.finder = f00 ∧ Sub s'.known ρ ∧ ∀ f ∈ p.flows, (s'.known.get f.name).isSome = true := fun ho ρ hg => q5 ho ρ hg (hF ho ρ hg).1 (fun k hk => hle.some (hin0 k hk)) (hF ho ρ hg).2;cases b with
   | true => exact .inl ⟨_, rfl, ⟨hst.trans q1, q2, hle.trans q3, hR', fun ho ρ hg => ⟨(hq ho ρ hg).1, (hq ho ρ hg).2.1⟩⟩, q4 rfl⟩
   | false => exact .inr ⟨_, rfl, hst.trans q1, hle.trans q3, hR', hq⟩) (v := (m0, (⟨s0.finder, m0⟩ : So))) ⟨by rw [hf0]; exact St.refl _, by show m0.n + U p.flows m0 ≤ 100; simp only at hn0; omega, Le.refl _, hR0, fun _ ρ hg => ⟨hf0, hs0 ρ hg⟩⟩
 -- what is not known
 obtain ⟨⟨cs, m2, s2⟩, h2, hcs, rfl, hst2, hz2, hF2⟩ := qT (f := QR p m_fs) (fun i v => v.2.1 = (i : Int) ∧ v.1 = (p.flows.take i).map (fun f => gdC m1 f.name) ∧ v.2.2.1 = m1 ∧ St s1.finder v.2.2.2.finder ∧ (v.2.2.2.finder.e = 0 → ∀ f ∈ p.flows.take i, (m1.get f.name).isSome = true) ∧ ((∀ f ∈ p.flows, (m1.get f.name).isSome = true) → v.2.2.2.finder = s1.finder)) p.flows.length
  (fun r : List Clock × Mp Clock × So => r.1 = p.flows.map (fun f => gdC m1 f.name) ∧ r.2.1 = m1 ∧ St s1.finder r.2.2.finder ∧ (r.2.2.finder.e = 0 → ∀ f ∈ p.flows, (m1.get f.name).isSome = true) ∧ ((∀ f ∈ p.flows, (m1.get f.name).isSome = true) → r.2.2.finder = s1.finder)) (fun i v hi hv => by
   obtain ⟨cs, _, m, vs⟩ := v;obtain ⟨rfl, hc, hm, hst, hz, hF⟩ := hv;simp only at hc hm hst hz hF;subst hc;subst hm;unfold QR;have hmem := List.getElem_mem hi;have happ : ∀ c : Clock, Qk 16 ((p.flows.take i).map (fun f => gdC m f.name)) [c] = some ((p.flows.take i).map (fun f => gdC m f.name) ++ [c]) := fun c => by
    unfold Qk;rw [if_pos (by simp only [List.length_map, List.length_take, List.length_cons, List.length_nil]; omega)]
   have hcs : (p.flows.take i).map (fun f => gdC m f.name) ++ [gdC m p.flows[i].name] = (p.flows.take (i + 1)).map (fun f => gdC m f.name) := by
    rw [List.take_succ_eq_append_getElem hi, List.map_append]; rfl
   have hbad : bad 6 := .inr (.inl rfl);simp only [dlt hi, if_true, qx hi, Option.bind_some, happ];by_cases hk : (m.get p.flows[i].name).isSome = true
   ·simp only [hk, Bool.not_true, Bool.false_eq_true, if_false, Option.bind_some];refine .inl ⟨_, rfl, zA hi (by omega), hcs, rfl, hst, fun h0 => ?_, hF⟩;rw [QQh hi];exact ⟨hz h0, hk⟩
   ·simp only [Bool.not_eq_true _ |>.mp hk, Bool.not_false, if_true, v_fs, Option.bind_some];exact .inl ⟨_, rfl, zA hi (by omega), hcs, rfl, hst.trans (St.fail hbad), fun h0 => absurd h0 (zzb hbad), fun h => absurd (h _ hmem) hk⟩) (fun v hv => by
   obtain ⟨cs, _, m, vs⟩ := v;obtain ⟨rfl, hc, hm, hst, hz, hF⟩ := hv;simp only at hc hm hst hz hF;subst hc;subst hm;unfold QR;simp only [dge, Bool.false_eq_true, if_false];rw [List.take_length] at hz;exact ⟨_, rfl, by simp only [List.take_length], rfl, hst, hz, hF⟩) (v0 := (([] : List Clock), (0 : Int), m1, (⟨s1.finder, m1⟩ : So))) ⟨rfl, rfl, rfl, St.refl _, fun _ f h => by simp at h, fun _ => rfl⟩
 simp only at hcs hst2 hz2 hF2
 -- all leaves have names
 have hleaf : (∀ f ∈ p.flows, (m2.get f.name).isSome = true) → ∀ f ∈ p.flows, Kn m2 f.e := fun h f hff y hy k => by
  have h1 := (hS.flow f hff y hy).1;have hz : flS p y.name ≠ 0 := fun hz => h1 ⟨k, hz⟩;have hm : y.name ∈ zc p ++ zu p := Classical.not_not.1 fun h => hz (by
   unfold flS;rw [show ((cnt y.name ((zc p ++ zu p).reverse) : Nat) : Int) = 0 ↔ cnt y.name ((zc p ++ zu p).reverse) = 0 by omega, zze, List.mem_reverse];exact h)
  rcases List.mem_append.1 hm with hm | hm
  ·exact hle1.some (hin0 _ hm)
  ·obtain ⟨g, hg, he⟩ := List.mem_map.1 hm;rw [← he];exact h g hg
 -- calls
 obtain ⟨⟨m3, s3⟩, h3, rfl, hst3, hz3, hF3⟩ := qT (f := QQ p YY) (fun i v => v.1 = (i : Int) ∧ v.2.1 = m2 ∧ St s2.finder v.2.2.finder ∧ (v.2.2.finder.e = 0 → ∀ f ∈ p.flows.take i, Kn m2 f.e → ∀ c, OfC (gdC m2) f.e c → RefC (gdC m2) f.e c) ∧ (s2.finder.e = 0 → (∀ f ∈ p.flows, Kn m2 f.e ∧ ∃ c, RefC (gdC m2) f.e c) → v.2.2.finder = s2.finder)) p.flows.length
  (fun r : Mp Clock × So => r.1 = m2 ∧ St s2.finder r.2.finder ∧ (r.2.finder.e = 0 → ∀ f ∈ p.flows, Kn m2 f.e → ∀ c, OfC (gdC m2) f.e c → RefC (gdC m2) f.e c) ∧ (s2.finder.e = 0 → (∀ f ∈ p.flows, Kn m2 f.e ∧ ∃ c, RefC (gdC m2) f.e c) → r.2.finder = s2.finder)) (fun i v hi hv => by
   obtain ⟨_, m, vs⟩ := v;obtain ⟨rfl, rfl, hst, hz, hF⟩ := hv;simp only at hst hz hF;unfold QQ;have hmem := List.getElem_mem hi;obtain ⟨⟨u, s'⟩, h5, q1, q2, q3, q4⟩ := t_calls _ (hf.flow _ hmem).e ⟨vs.finder, m⟩;simp only at q1 q2 q3 q4;simp only [dlt hi, if_true, qx hi, Option.bind_some, h5];refine .inl ⟨_, rfl, zA hi (by omega), q1, hst.trans q2, fun h0 => ?_, fun h0 h => ?_⟩
   ·simp only at h0;rw [QQh hi];exact ⟨hz (by rw [← q2.zero h0]; exact h0), q3 h0⟩
   ·have h7 := hF h0 h;have := q4 (by rw [h7]; exact h0) (h _ hmem).1 (h _ hmem).2;subst this;exact h7) (fun v hv => by
   obtain ⟨_, m, vs⟩ := v;obtain ⟨rfl, rfl, hst, hz, hF⟩ := hv;simp only at hst hz hF;unfold QQ;simp only [dge, Bool.false_eq_true, if_false];rw [List.take_length] at hz;exact ⟨_, rfl, rfl, hst, hz, hF⟩) (v0 := ((0 : Int), m2, (⟨s2.finder, m2⟩ : So))) ⟨rfl, rfl, St.refl _, fun _ f h => by simp at h, fun _ _ => rfl⟩
 simp only at hst3 hz3 hF3
 -- each flow's own clock
 obtain ⟨⟨m4, s4⟩, h4, rfl, hst4, hz4, hF4⟩ := qT (f := QP p m_fs Yd) (fun i v => v.1 = (i : Int) ∧ v.2.1 = m3 ∧ St s3.finder v.2.2.finder ∧ (v.2.2.finder.e = 0 → ∀ f ∈ p.flows.take i, Kn m3 f.e → OfC (gdC m3) f.e (gdC m3 f.name)) ∧ (s3.finder.e = 0 → (∀ f ∈ p.flows, Kn m3 f.e ∧ OfC (gdC m3) f.e (gdC m3 f.name)) → v.2.2.finder = s3.finder)) p.flows.length
  (fun r : Mp Clock × So => r.1 = m3 ∧ St s3.finder r.2.finder ∧ (r.2.finder.e = 0 → ∀ f ∈ p.flows, Kn m3 f.e → OfC (gdC m3) f.e (gdC m3 f.name)) ∧ (s3.finder.e = 0 → (∀ f ∈ p.flows, Kn m3 f.e ∧ OfC (gdC m3) f.e (gdC m3 f.name)) → r.2.finder = s3.finder)) (fun i v hi hv => by
   obtain ⟨_, m, vs⟩ := v;obtain ⟨rfl, rfl, hst, hz, hF⟩ := hv;simp only at hst hz hF;unfold QP;have hmem := List.getElem_mem hi;obtain ⟨⟨⟨c, b⟩, s'⟩, h5, q1, q2, q3, q4, q5, -⟩ := t_of _ (hf.flow _ hmem).e ⟨vs.finder, m⟩;simp only at q1 q2 q4 q5;simp only [dlt hi, if_true, qx hi, Option.bind_some, h5, q1];have hbad : bad 5 := .inl rfl;have hstay : s3.finder.e = 0 → (∀ f ∈ p.flows, Kn m f.e ∧ OfC (gdC m) f.e (gdC m f.name)) → ((c, b), s') = ((gdC m p.flows[i].name, true), (⟨vs.finder, m⟩ : So)) ∧ vs.finder = s3.finder := fun h0 h => by
    have h7 := hF h0 h;exact ⟨q5 (by rw [h7]; exact h0) (h _ hmem).1 _ (h _ hmem).2, h7⟩
   by_cases hc : b = true ∧ c ≠ gdC m p.flows[i].name
   ·have hcond : (b && !(decide (c.period = ((m.get p.flows[i].name).getD ⟨0, 0⟩).period) && decide (c.phase = ((m.get p.flows[i].name).getD ⟨0, 0⟩).phase))) = true := by
     obtain ⟨rfl, hne⟩ := hc;simp only [Bool.true_and, Bool.not_eq_true', ← Bool.decide_and, decide_eq_false_iff_not];intro ⟨h7, h8⟩;refine hne ?_;unfold gdC;generalize (m.get p.flows[i].name).getD ⟨0, 0⟩ = d at h7 h8 ⊢;cases d; cases c; simp_all
    simp only [hcond, if_true, v_fs, Option.bind_some];refine .inl ⟨_, rfl, zA hi (by omega), rfl, hst.trans (q2.trans (St.fail hbad)), fun h0 => absurd h0 (zzb hbad), fun h0 h => ?_⟩;have := (hstay h0 h).1;simp only [Prod.mk.injEq] at this;exact absurd this.1.1 hc.2
   ·have hcond : (b && !(decide (c.period = ((m.get p.flows[i].name).getD ⟨0, 0⟩).period) && decide (c.phase = ((m.get p.flows[i].name).getD ⟨0, 0⟩).phase))) = false := by
     cases b with
     | false => rfl
     | true =>
      have : c = gdC m p.flows[i].name := Classical.not_not.1 fun h => hc ⟨rfl, h⟩;subst this;simp [gdC]
    simp only [hcond, Bool.false_eq_true, if_false, Option.bind_some];refine .inl ⟨_, rfl, zA hi (by omega), rfl, hst.trans q2, fun h0 => ?_, fun h0 h => ?_⟩
    ·simp only at h0;rw [QQh hi];refine ⟨hz (by rw [← q2.zero h0]; exact h0), fun hk => ?_⟩;obtain ⟨hb, ho⟩ := q4 h0 hk;have : c = gdC m p.flows[i].name := Classical.not_not.1 fun h => hc ⟨hb, h⟩;rw [← this];exact ho
    ·obtain ⟨h7, h8⟩ := hstay h0 h;simp only [Prod.mk.injEq] at h7;obtain ⟨_, rfl⟩ := h7;exact h8) (fun v hv => by
   obtain ⟨_, m, vs⟩ := v;obtain ⟨rfl, rfl, hst, hz, hF⟩ := hv;simp only at hst hz hF;unfold QP;simp only [dge, Bool.false_eq_true, if_false];rw [List.take_length] at hz;exact ⟨_, rfl, rfl, hst, hz, hF⟩) (v0 := ((0 : Int), m3, (⟨s3.finder, m3⟩ : So))) ⟨rfl, rfl, St.refl _, fun _ f h => by simp at h, fun _ _ => rfl⟩
 simp only at hst4 hz4 hF4;have hst : St f00 s4.finder := hst1.trans (hst2.trans (hst3.trans hst4));have hB : qqk p = some (if s4.finder.e = 0 then (cs, 0, 0) else ([], s4.finder.at_, s4.finder.e)) := by
  unfold qqk B_check_Clocks;have h0' : qy (Qv p) ((0 : Int), (Mp.emp : Mp Clock), (qc.mk (qR.mk (0 : Int) (0 : Int)) (Mp.emp : Mp Clock))) = some (m0, s0) := h0;rw [h0'];simp only [Option.bind_some];rw [h1];simp only [Option.bind_some];rw [h2];simp only [Option.bind_some];rw [h3];simp only [Option.bind_some];rw [h4];simp only [Option.bind_some];by_cases h : s4.finder.e = 0 <;> simp [h]
 rw [hB];have hfull : Ord p → ∀ ρ, GoodC p ρ → s4.finder = f00 ∧ cs = p.flows.map fun f => ρ f.name := fun ho ρ hg => by
  obtain ⟨g1, g2, g3⟩ := hF1 ho ρ hg;simp only at g1 g2 g3;have e2 := hF2 g3;have hkn := hleaf g3;have hr : ∀ f ∈ p.flows, RefC (gdC m4) f.e (gdC m4 f.name) := fun f hff => by
   have hk := hkn f hff;rw [g2.at (g3 f hff)];exact (hg.2 f hff).congr fun y hy k => (g2.at (hk y hy k)).symm
  have e3 := hF3 (by rw [e2, g1]; rfl) fun f hff => ⟨hkn f hff, _, hr f hff⟩;have e4 := hF4 (by rw [e3, e2, g1]; rfl) fun f hff => ⟨hkn f hff, (hr f hff).of⟩;refine ⟨by rw [e4, e3, e2, g1], ?_⟩;rw [hcs];exact List.map_congr_left fun f hff => g2.at (g3 f hff)
 by_cases h : s4.finder.e = 0
 ·rw [if_pos h];refine ⟨_, _, _, rfl, .inl rfl, fun h => absurd rfl h, fun _ => ⟨gdC m4, ⟨fun x hx => ?_, fun f hff => ?_⟩, hcs⟩, fun ho ρ hg => ⟨rfl, (hfull ho ρ hg).2⟩, fun _ => ?_⟩
  ·unfold gdC;rw [hle1 _ _ (hm0 x hx)];rfl
  ·have z3 : s3.finder.e = 0 := by rw [← hst4.zero h]; exact h
   have z2 : s2.finder.e = 0 := by rw [← hst3.zero z3]; exact z3
   have hk := hleaf (hz2 z2) f hff;exact hz3 z3 f hff hk _ (hz4 h f hff hk)
  ·have z3 : s3.finder.e = 0 := by rw [← hst4.zero h]; exact h
   have z2 : s2.finder.e = 0 := by rw [← hst3.zero z3]; exact z3
   obtain ⟨rk, N, r1, r2⟩ := hR1;exact ⟨rk, fun f hff => (r2 f hff (hz2 z2 f hff)).imp fun k ⟨k1, k2⟩ => by
    rcases k2 with k2 | k2
    ·exact .inl k2
    ·rcases (r1 k k1).2 with h | h
     ·exact .inl h
     ·exact .inr ⟨h, k2⟩⟩
 ·rw [if_neg h];refine ⟨_, _, _, rfl, ?_, fun _ => rfl, fun h' => absurd h' h, fun ho ρ hg => absurd (by rw [(hfull ho ρ hg).1]; rfl) h, fun h' => absurd h' h⟩;rcases hst with h' | ⟨_, h'⟩
  ·exact absurd (by rw [h']; rfl) h
  ·exact .inr h'
end Go.Proofs.Ytohmmfimedgccaa.E
end
section
namespace Go.Proofs.Ytohmmfimedgccaa.E
set_option maxRecDepth 100000
set_option maxHeartbeats 4000000
set_option linter.unusedVariables false
set_option linter.unusedSimpArgs false
noncomputable def B_ref02_Apply (f0 : Clock → Option Bool) (a0 : Clock) (a1 : Op) : Option (Clock × Int) :=
 (f0 a0).bind fun y1 =>
 if (((!y1) || (decide (a1.kind < (3 : Int)))) || (decide ((8 : Int) < a1.kind))) then
  some ((Clock.mk (0 : Int) (0 : Int)), (12 : Int))
 else
  (if (decide (a1.kind = (5 : Int))) then
   some (0 : Int)
  else
   some (1 : Int) : Option Int).bind fun v8 =>
  if (((decide (a1.kind < (6 : Int))) && ((decide (a1.n < v8)) || (decide ((100 : Int) < a1.n)))) || ((decide (a1.kind = (5 : Int))) && ((decide (a1.d < (1 : Int))) || (decide ((100 : Int) < a1.d))))) then
   some ((Clock.mk (0 : Int) (0 : Int)), (7 : Int))
  else
   ((if (decide (a1.kind = (3 : Int))) then
    (Jb a0.period a1.n).bind fun y29 =>
    if (!decide (y29 = (0 : Int))) then
     some (.inl ((Clock.mk (0 : Int) (0 : Int)), (5 : Int)))
    else
     (quoO .i64 a0.period a1.n).bind fun y32 =>
     some (.inr (y32, a0.phase, (Clock.mk (0 : Int) (0 : Int))))
   else
    (if (decide (a1.kind = (4 : Int))) then
     some (.inr ((IntKind.i64.wrap (a0.period * a1.n)), a0.phase, (Clock.mk (0 : Int) (0 : Int))))
    else
     (if (decide (a1.kind = (5 : Int))) then
      (Jb (IntKind.i64.wrap (a0.period * a1.n)) a1.d).bind fun y45 =>
      if (!decide (y45 = (0 : Int))) then
       some (.inl ((Clock.mk (0 : Int) (0 : Int)), (5 : Int)))
      else
       (quoO .i64 (IntKind.i64.wrap (a0.period * a1.n)) a1.d).bind fun y48 =>
       some (.inr ((IntKind.i64.wrap (a0.phase + y48)), (Clock.mk (0 : Int) (0 : Int))))
     else
      (if (decide (a1.kind = (7 : Int))) then
       some (.inr ((IntKind.i64.wrap (a0.phase + a0.period)), (Clock.mk (0 : Int) (0 : Int))))
      else
       (if (decide (a1.kind = (8 : Int))) then
        if (decide (a0.phase < a0.period)) then
         some (.inl ((Clock.mk (0 : Int) (0 : Int)), (5 : Int)))
        else
         some (.inr ((IntKind.i64.wrap (a0.phase - a0.period)), (Clock.mk (0 : Int) (0 : Int))))
       else
        some (.inr (a0.phase, (Clock.mk (0 : Int) (0 : Int)))) : Option ((Clock × Int) ⊕ (Int × Clock))).bind fun x => match x with
       | .inl r => some (.inl r)
       | .inr (v57, v58) =>
        some (.inr (v57, v58)) : Option ((Clock × Int) ⊕ (Int × Clock))).bind fun x => match x with
      | .inl r => some (.inl r)
      | .inr (v52, v53) =>
       some (.inr (v52, v53)) : Option ((Clock × Int) ⊕ (Int × Clock))).bind fun x => match x with
     | .inl r => some (.inl r)
     | .inr (v42, v43) =>
      some (.inr (a0.period, v42, v43)) : Option ((Clock × Int) ⊕ (Int × Int × Clock))).bind fun x => match x with
    | .inl r => some (.inl r)
    | .inr (v36, v37, v38) =>
     some (.inr (v36, v37, v38)) : Option ((Clock × Int) ⊕ (Int × Int × Clock))).bind fun x => match x with
   | .inl r => some (.inl r)
   | .inr (v25, v26, v27) =>
    some (.inr (v25, v26, v27)) : Option ((Clock × Int) ⊕ (Int × Int × Clock))).bind fun x => match x with
   | .inl r => some r
   | .inr (v20, v21, v22) =>
    (f0 (Clock.mk v20 v21)).bind fun y61 =>
    if (!y61) then
     some ((Clock.mk (0 : Int) (0 : Int)), (7 : Int))
    else
     some ((Clock.mk v20 v21), (0 : Int))
abbrev C52_0 (z0 z1 : Store) (z2 : Nat) : Prop := Bx z0 z1 z2 43 [(.v (.int .i64 (0 : Int))), (.v (.int .i64 (0 : Int)))]
theorem W_ref02_Apply (f0) (S0 : Sat_ref02_Right f0) : Sat_ref02_Apply (B_ref02_Apply f0) := by
 intro a0 a1 r h σ K hK;refine qW Try.func52 rfl rfl (by kernel_rfl) ?_;unfold B_ref02_Apply at h;have hP := Pre.refl σ;have E0 : qz [(.ag (Clock.cl a0)), (.ag (Op.cl a1))] 0 = (.ag (Clock.cl a0)) := rfl;have E1 : qz [(.ag (Clock.cl a0)), (.ag (Op.cl a1))] 1 = (.ag (Op.cl a1)) := rfl;have TT := cj7 Clock.cle Expr.rlen Op.cle T_119 T_2 T_3 T_43;refine qk (fun e s => ∃ i2 i3 i4 : Nat, Bx σ s i2 43 (Clock.cl a0) ∧ Bx σ s i3 119 (Op.cl a1) ∧ C52_0 σ s i4 ∧ eP e 2 i2 ∧ eP e 3 i3 ∧ eP e 4 i4 ∧ i2 ≠ i4 ∧ i3 ≠ i4 ∧ Pre σ s) ?_ ?_
 ·have q1 := cj3 E0 E1 TT;refine w_x q1 ?_;have q2 := (Bx.new hP 43 (Clock.cl a0)).app [some (AObj.box 119 (Op.cl a1))];exact qe ⟨σ.length, (σ ++ [some (AObj.box 43 (Clock.cl a0))]).length, ((σ ++ [some (AObj.box 43 (Clock.cl a0))]) ++ [some (AObj.box 119 (Op.cl a1))]).length, (q2.app _), ((Bx.new (hP.app _) 119 (Op.cl a1)).app [some (AObj.box 43 [(.v (.int .i64 (0 : Int))), (.v (.int .i64 (0 : Int)))])]), (Bx.new ((hP.app _).app _) 43 [(.v (.int .i64 (0 : Int))), (.v (.int .i64 (0 : Int)))]), (xv q1), (xv q1), (xv q1), (Nat.ne_of_lt q2.lt), (Nat.ne_of_lt (Bx.new (hP.app _) 119 (Op.cl a1)).lt), (((hP.app _).app _).app _)⟩
 rintro e s ⟨i2, i3, i4, X2, X3, X4, E2, E3, E4, N2__4, N3__4, hP⟩
 refine ql ?_;obtain ⟨y1, h2, h⟩ := qb h;refine qk (fun e s => Bx σ s i2 43 (Clock.cl a0) ∧ Bx σ s i3 119 (Op.cl a1) ∧ C52_0 σ s i4 ∧ eP e 2 i2 ∧ eP e 3 i3 ∧ eP e 4 i4 ∧ eB e 22 (((!y1) || (decide (a1.kind < (3 : Int)))) || (decide ((8 : Int) < a1.kind))) ∧ i2 ≠ i4 ∧ i3 ≠ i4 ∧ Pre σ s) ?_ ?_
 ·cases hb3 : (!y1)
  ·cases hb4 : (decide (a1.kind < (3 : Int)))
   ·have q3 := cj7 E2 E3 X2.get X3.get hb3 hb4 TT;refine w_x q3 ?_;refine S0 _ _ h2 _ _  ?_;refine w_y q3 ?_;exact qe ⟨X2, X3, X4, E2, E3, E4, (xv q3), N2__4, N3__4, hP⟩
   ·have q4 := cj7 E2 E3 X2.get X3.get hb3 hb4 TT;refine w_x q4 ?_;refine S0 _ _ h2 _ _  ?_;refine w_y q4 ?_;exact qe ⟨X2, X3, X4, E2, E3, E4, (xv q4), N2__4, N3__4, hP⟩
  ·have q5 := cj6 E2 E3 X2.get X3.get hb3 TT;refine w_x q5 ?_;refine S0 _ _ h2 _ _  ?_;refine w_y q5 ?_;exact qe ⟨X2, X3, X4, E2, E3, E4, (xv q5), N2__4, N3__4, hP⟩
 rintro e s ⟨X2, X3, X4, E2, E3, E4, E22, N2__4, N3__4, hP⟩
 refine qd ?_;rcases qi h with ⟨hb5, h⟩ | ⟨hb5, h⟩
 ·refine xt (cj2 E22 hb5) (qk (fun e s => C52_0 σ s i4 ∧ eP e 4 i4 ∧ eI e 5 (12 : Int) ∧ Pre σ s) ?_ ?_)
  ·have q6 := X4.same 43 [(.v (.int .i64 (0 : Int))), (.v (.int .i64 (0 : Int)))];refine w_x (cj4 E4 X4.get q6.get TT) ?_;exact qe ⟨q6, E4, (xv (cj4 E4 X4.get q6.get TT)), (hP.set X4.le (some (AObj.box 43 [(.v (.int .i64 (0 : Int))), (.v (.int .i64 (0 : Int)))])))⟩
  rintro e s ⟨X4, E4, E5, hP⟩
  refine qp (zd ?_);obtain rfl := qa h;exact qt (fun _ => rfl) (xr (rs := #[.cell 4 43, .tmp 5]) (cj4 X4.get E4 E5 TT)) hP (.refl _) (.tu (CnL.cons (.ag (CnL.cons (.v _) (CnL.cons (.v _) CnL.nil))) (CnL.cons (.v _) CnL.nil))) hK
 ·refine xf (cj2 E22 hb5) (qm (qf (qd (w_x Expr.rlen ?_))));refine qf (ql (qd (w_x (cj3 E3 X3.get TT) ?_)));refine qf ?_;obtain ⟨x6, h7, h⟩ := qb h;refine qk (fun e s => ∃ v8, v8 = x6 ∧ Bx σ s i2 43 (Clock.cl a0) ∧ Bx σ s i3 119 (Op.cl a1) ∧ C52_0 σ s i4 ∧ eP e 2 i2 ∧ eP e 3 i3 ∧ eP e 4 i4 ∧ eI e 6 v8 ∧ i2 ≠ i4 ∧ i3 ≠ i4 ∧ Pre σ s) ?_ ?_
  ·rcases qi h7 with ⟨hb9, h7⟩ | ⟨hb9, h7⟩
   ·refine xt hb9 (w_x Expr.rlen ?_);obtain rfl := qa h7;exact qe ⟨_, rfl, X2, X3, X4, E2, E3, E4, (xv Expr.rlen), N2__4, N3__4, hP⟩
   ·refine xf hb9 (qm ?_);obtain rfl := qa h7;exact qe ⟨_, rfl, X2, X3, X4, E2, E3, E4, (xv TT), N2__4, N3__4, hP⟩
  rintro e s ⟨v8, rfl, X2, X3, X4, E2, E3, E4, E6, N2__4, N3__4, hP⟩
  (try dsimp only at h);refine ql (qk (fun e s => Bx σ s i2 43 (Clock.cl a0) ∧ Bx σ s i3 119 (Op.cl a1) ∧ C52_0 σ s i4 ∧ eP e 2 i2 ∧ eP e 3 i3 ∧ eP e 4 i4 ∧ eB e 55 (((decide (a1.kind < (6 : Int))) && ((decide (a1.n < v8)) || (decide ((100 : Int) < a1.n)))) || ((decide (a1.kind = (5 : Int))) && ((decide (a1.d < (1 : Int))) || (decide ((100 : Int) < a1.d))))) ∧ i2 ≠ i4 ∧ i3 ≠ i4 ∧ Pre σ s) ?_ ?_)
  ·cases hb10 : (decide (a1.kind < (6 : Int)))
   ·cases hb11 : (decide (a1.kind = (5 : Int)))
    ·have q7 := cj6 E3 E6 X3.get hb10 hb11 TT;refine w_x q7 ?_;exact qe ⟨X2, X3, X4, E2, E3, E4, (xv q7), N2__4, N3__4, hP⟩
    ·cases hb12 : (decide (a1.d < (1 : Int)))
     ·have q8 := cj7 E3 E6 X3.get hb10 hb11 hb12 TT;refine w_x q8 ?_;exact qe ⟨X2, X3, X4, E2, E3, E4, (xv q8), N2__4, N3__4, hP⟩
     ·have q9 := cj7 E3 E6 X3.get hb10 hb11 hb12 TT;refine w_x q9 ?_;exact qe ⟨X2, X3, X4, E2, E3, E4, (xv q9), N2__4, N3__4, hP⟩
   ·cases hb13 : (decide (a1.n < v8))
    ·cases hb14 : (decide ((100 : Int) < a1.n))
     ·cases hb15 : (decide (a1.kind = (5 : Int)))
      ·have q10 := cj8 E3 E6 X3.get hb10 hb13 hb14 hb15 TT;refine w_x q10 ?_;exact qe ⟨X2, X3, X4, E2, E3, E4, (xv q10), N2__4, N3__4, hP⟩
      ·cases hb16 : (decide (a1.d < (1 : Int)))
       ·have q11 := cj9 E3 E6 X3.get hb10 hb13 hb14 hb15 hb16 TT;refine w_x q11 ?_;exact qe ⟨X2, X3, X4, E2, E3, E4, (xv q11), N2__4, N3__4, hP⟩
       ·have q12 := cj9 E3 E6 X3.get hb10 hb13 hb14 hb15 hb16 TT;refine w_x q12 ?_;exact qe ⟨X2, X3, X4, E2, E3, E4, (xv q12), N2__4, N3__4, hP⟩
     ·have q13 := cj7 E3 E6 X3.get hb10 hb13 hb14 TT;refine w_x q13 ?_;exact qe ⟨X2, X3, X4, E2, E3, E4, (xv q13), N2__4, N3__4, hP⟩
    ·have q14 := cj6 E3 E6 X3.get hb10 hb13 TT;refine w_x q14 ?_;exact qe ⟨X2, X3, X4, E2, E3, E4, (xv q14), N2__4, N3__4, hP⟩
  rintro e s ⟨X2, X3, X4, E2, E3, E4, E55, N2__4, N3__4, hP⟩
  refine qd ?_;rcases qi h with ⟨hb17, h⟩ | ⟨hb17, h⟩
  ·refine xt (cj2 E55 hb17) (qk (fun e s => C52_0 σ s i4 ∧ eP e 4 i4 ∧ eI e 5 (7 : Int) ∧ Pre σ s) ?_ ?_)
   ·have q15 := X4.same 43 [(.v (.int .i64 (0 : Int))), (.v (.int .i64 (0 : Int)))];refine w_x (cj4 E4 X4.get q15.get TT) ?_;exact qe ⟨q15, E4, (xv (cj4 E4 X4.get q15.get TT)), (hP.set X4.le (some (AObj.box 43 [(.v (.int .i64 (0 : Int))), (.v (.int .i64 (0 : Int)))])))⟩
   rintro e s ⟨X4, E4, E5, hP⟩
   refine qp (zd ?_);obtain rfl := qa h;exact qt (fun _ => rfl) (xr (rs := #[.cell 4 43, .tmp 5]) (cj4 X4.get E4 E5 TT)) hP (.refl _) (.tu (CnL.cons (.ag (CnL.cons (.v _) (CnL.cons (.v _) CnL.nil))) (CnL.cons (.v _) CnL.nil))) hK
  ·refine xf (cj2 E55 hb17) (qm (qf (qd (ZX (cj3 E2 X2.get TT) ?_))));refine qf (ql (qd (w_x (cj3 E3 X3.get TT) ?_)));refine qf ?_;obtain ⟨x18, h19, h⟩ := qb h;refine qk (fun e s => ∃ v20 : Int, ∃ v21 : Int, ∃ v22 : Clock, .inr (v20, v21, v22) = x18 ∧ Bx σ s i4 43 (Clock.cl v22) ∧ eP e 4 i4 ∧ eI e 7 v20 ∧ eI e 8 v21 ∧ Pre σ s) ?_ ?_
   ·refine qn (qd (w_x TT ?_));refine qf ?_;obtain ⟨x23, h24, h19⟩ := qb h19;refine zE (fun e s => ∃ v25 : Int, ∃ v26 : Int, ∃ v27 : Clock, .inr (v25, v26, v27) = x23 ∧ Bx σ s i4 43 (Clock.cl v27) ∧ eP e 4 i4 ∧ eI e 7 v25 ∧ eI e 8 v26 ∧ Pre σ s) ?_ ?_
    ·rcases qi h24 with ⟨hb28, h24⟩ | ⟨hb28, h24⟩
     ·refine xt hb28 (ql (qd ?_));obtain ⟨y29, h30, h24⟩ := qb h24;refine w_x (cj5 E3 X3.get (eq_false (qV h30).1) (qV h30).2 TT) ?_;refine qf (qd ?_);rcases qi h24 with ⟨hb31, h24⟩ | ⟨hb31, h24⟩
      ·refine xt hb31 (qk (fun e s => C52_0 σ s i4 ∧ eP e 4 i4 ∧ eI e 5 (5 : Int) ∧ Pre σ s) ?_ ?_)
       ·have q16 := X4.same 43 [(.v (.int .i64 (0 : Int))), (.v (.int .i64 (0 : Int)))];refine w_x (cj4 E4 X4.get q16.get TT) ?_;exact qe ⟨q16, E4, (xv (cj4 E4 X4.get q16.get TT)), (hP.set X4.le (some (AObj.box 43 [(.v (.int .i64 (0 : Int))), (.v (.int .i64 (0 : Int)))])))⟩
       rintro e s ⟨X4, E4, E5, hP⟩
       refine qp (zd ?_);obtain rfl := qa h24;refine Yk ?_;(try dsimp only at h19);refine qw ?_;obtain rfl := qa h19;refine qB ?_;(try dsimp only at h);obtain rfl := qa h;exact qt (fun _ => rfl) (xr (rs := #[.cell 4 43, .tmp 5]) (cj4 X4.get E4 E5 TT)) hP (.refl _) (.tu (CnL.cons (.ag (CnL.cons (.v _) (CnL.cons (.v _) CnL.nil))) (CnL.cons (.v _) CnL.nil))) hK
      ·refine xf hb31 (qm (qf ?_));obtain ⟨y32, h33, h24⟩ := qb h24;have q17 := cj5 E3 X3.get (eq_false (Zw h33).1) (Zw h33).2 TT;refine w_x q17 ?_;obtain rfl := qa h24;exact qS ⟨_, _, _, rfl, X4, E4, (xv q17), (xv q17), hP⟩
     ·refine xf hb28 (qd (w_x TT ?_));refine qf ?_;obtain ⟨x34, h35, h24⟩ := qb h24;refine zE (fun e s => ∃ v36 : Int, ∃ v37 : Int, ∃ v38 : Clock, .inr (v36, v37, v38) = x34 ∧ Bx σ s i4 43 (Clock.cl v38) ∧ eP e 4 i4 ∧ eI e 7 v36 ∧ eI e 8 v37 ∧ Pre σ s) ?_ ?_
      ·rcases qi h35 with ⟨hb39, h35⟩ | ⟨hb39, h35⟩
       ·refine xt hb39 ?_;have q18 := cj3 E3 X3.get TT;refine w_x q18 ?_;obtain rfl := qa h35;exact qS ⟨_, _, _, rfl, X4, E4, (xv q18), (xv q18), hP⟩
       ·refine xf hb39 (qd (w_x TT ?_));refine qf ?_;obtain ⟨x40, h41, h35⟩ := qb h35;refine zE (fun e s => ∃ v42 : Int, ∃ v43 : Clock, .inr (v42, v43) = x40 ∧ Bx σ s i4 43 (Clock.cl v43) ∧ eP e 4 i4 ∧ eI e 7 a0.period ∧ eI e 8 v42 ∧ Pre σ s) ?_ ?_
        ·rcases qi h41 with ⟨hb44, h41⟩ | ⟨hb44, h41⟩
         ·refine xt hb44 (ql (qd ?_));obtain ⟨y45, h46, h41⟩ := qb h41;refine w_x (cj5 E3 X3.get (eq_false (qV h46).1) (qV h46).2 TT) ?_;refine qf (qd ?_);rcases qi h41 with ⟨hb47, h41⟩ | ⟨hb47, h41⟩
          ·refine xt hb47 (qk (fun e s => C52_0 σ s i4 ∧ eP e 4 i4 ∧ eI e 5 (5 : Int) ∧ Pre σ s) ?_ ?_)
           ·have q19 := X4.same 43 [(.v (.int .i64 (0 : Int))), (.v (.int .i64 (0 : Int)))];refine w_x (cj4 E4 X4.get q19.get TT) ?_;exact qe ⟨q19, E4, (xv (cj4 E4 X4.get q19.get TT)), (hP.set X4.le (some (AObj.box 43 [(.v (.int .i64 (0 : Int))), (.v (.int .i64 (0 : Int)))])))⟩
           rintro e s ⟨X4, E4, E5, hP⟩
           refine qp (zd ?_);obtain rfl := qa h41;refine Yk ?_;(try dsimp only at h35);obtain rfl := qa h35;refine Yk ?_;(try dsimp only at h24);obtain rfl := qa h24;refine Yk ?_;(try dsimp only at h19);refine qw ?_;obtain rfl := qa h19;refine qB ?_;(try dsimp only at h);obtain rfl := qa h;exact qt (fun _ => rfl) (xr (rs := #[.cell 4 43, .tmp 5]) (cj4 X4.get E4 E5 TT)) hP (.refl _) (.tu (CnL.cons (.ag (CnL.cons (.v _) (CnL.cons (.v _) CnL.nil))) (CnL.cons (.v _) CnL.nil))) hK
          ·refine xf hb47 (qm (qf ?_));obtain ⟨y48, h49, h41⟩ := qb h41;have q20 := cj5 E3 X3.get (eq_false (Zw h49).1) (Zw h49).2 TT;refine w_x q20 ?_;obtain rfl := qa h41;exact qS ⟨_, _, rfl, X4, E4, (xv q20), (xv q20), hP⟩
         ·refine xf hb44 (qd (w_x TT ?_));refine qf ?_;obtain ⟨x50, h51, h41⟩ := qb h41;refine zE (fun e s => ∃ v52 : Int, ∃ v53 : Clock, .inr (v52, v53) = x50 ∧ Bx σ s i4 43 (Clock.cl v53) ∧ eP e 4 i4 ∧ eI e 7 a0.period ∧ eI e 8 v52 ∧ Pre σ s) ?_ ?_
          ·rcases qi h51 with ⟨hb54, h51⟩ | ⟨hb54, h51⟩
           ·refine xt hb54 (w_x TT ?_);obtain rfl := qa h51;exact qS ⟨_, _, rfl, X4, E4, (xv TT), (xv TT), hP⟩
           ·refine xf hb54 (qd (w_x TT ?_));refine qf ?_;obtain ⟨x55, h56, h51⟩ := qb h51;refine zE (fun e s => ∃ v57 : Int, ∃ v58 : Clock, .inr (v57, v58) = x55 ∧ Bx σ s i4 43 (Clock.cl v58) ∧ eP e 4 i4 ∧ eI e 7 a0.period ∧ eI e 8 v57 ∧ Pre σ s) ?_ ?_
            ·rcases qi h56 with ⟨hb59, h56⟩ | ⟨hb59, h56⟩
             ·refine xt hb59 (ql (qd (w_x TT ?_)));refine qf (qd ?_);rcases qi h56 with ⟨hb60, h56⟩ | ⟨hb60, h56⟩
              ·refine xt hb60 (qk (fun e s => C52_0 σ s i4 ∧ eP e 4 i4 ∧ eI e 5 (5 : Int) ∧ Pre σ s) ?_ ?_)
               ·have q21 := X4.same 43 [(.v (.int .i64 (0 : Int))), (.v (.int .i64 (0 : Int)))];refine w_x (cj4 E4 X4.get q21.get TT) ?_;exact qe ⟨q21, E4, (xv (cj4 E4 X4.get q21.get TT)), (hP.set X4.le (some (AObj.box 43 [(.v (.int .i64 (0 : Int))), (.v (.int .i64 (0 : Int)))])))⟩
               rintro e s ⟨X4, E4, E5, hP⟩
               refine qp (zd ?_);obtain rfl := qa h56;refine Yk ?_;(try dsimp only at h51);obtain rfl := qa h51;refine Yk ?_;(try dsimp only at h41);obtain rfl := qa h41;refine Yk ?_;(try dsimp only at h35);obtain rfl := qa h35;refine Yk ?_;(try dsimp only at h24);obtain rfl := qa h24;refine Yk ?_;(try dsimp only at h19);refine qw ?_;obtain rfl := qa h19;refine qB ?_;(try dsimp only at h);obtain rfl := qa h;exact qt (fun _ => rfl) (xr (rs := #[.cell 4 43, .tmp 5]) (cj4 X4.get E4 E5 TT)) hP (.refl _) (.tu (CnL.cons (.ag (CnL.cons (.v _) (CnL.cons (.v _) CnL.nil))) (CnL.cons (.v _) CnL.nil))) hK
              ·refine xf hb60 (qm (qf (w_x TT ?_)));obtain rfl := qa h56;exact qS ⟨_, _, rfl, X4, E4, (xv TT), (xv TT), hP⟩
             ·refine xf hb59 (qm ?_);obtain rfl := qa h56;exact qS ⟨_, _, rfl, X4, E4, (xv TT), (xv TT), hP⟩
            rintro e s ⟨v57, v58, rfl, X4, E4, E7, E8, hP⟩
            (try dsimp only at h51);obtain rfl := qa h51;exact qS ⟨_, _, rfl, X4, E4, E7, E8, hP⟩
          rintro e s ⟨v52, v53, rfl, X4, E4, E7, E8, hP⟩
          (try dsimp only at h41);obtain rfl := qa h41;exact qS ⟨_, _, rfl, X4, E4, E7, E8, hP⟩
        rintro e s ⟨v42, v43, rfl, X4, E4, E7, E8, hP⟩
        (try dsimp only at h35);obtain rfl := qa h35;exact qS ⟨_, _, _, rfl, X4, E4, E7, E8, hP⟩
      rintro e s ⟨v36, v37, v38, rfl, X4, E4, E7, E8, hP⟩
      (try dsimp only at h24);obtain rfl := qa h24;exact qS ⟨_, _, _, rfl, X4, E4, E7, E8, hP⟩
    rintro e s ⟨v25, v26, v27, rfl, X4, E4, E7, E8, hP⟩
    (try dsimp only at h19);refine qQ ?_;obtain rfl := qa h19;exact qe ⟨_, _, _, rfl, X4, E4, E7, E8, hP⟩
   rintro e s ⟨v20, v21, v22, rfl, X4, E4, E7, E8, hP⟩
   (try dsimp only at h);refine qk (fun e s => ∃ i9 : Nat, Bx σ s i4 43 (Clock.cl v22) ∧ Bx σ s i9 43 [(.v (.int .i64 v20)), (.v (.int .i64 v21))] ∧ eP e 4 i4 ∧ eP e 9 i9 ∧ i4 ≠ i9 ∧ Pre σ s) ?_ ?_
   ·refine w_x (cj3 E7 E8 TT) ?_;exact qe ⟨s.length, (X4.app _), (Bx.new hP _ _), E4, (xv (cj3 E7 E8 TT)), (Nat.ne_of_lt X4.lt), (hP.app _)⟩
   rintro e s ⟨i9, X4, X9, E4, E9, N4__9, hP⟩
   refine ql (qd ?_);obtain ⟨y61, h62, h⟩ := qb h;refine w_x (cj3 E9 X9.get TT) ?_;refine S0 _ _ h62 _ _  ?_;refine w_y (cj3 E9 X9.get TT) ?_;refine qf (qd ?_);rcases qi h with ⟨hb63, h⟩ | ⟨hb63, h⟩
   ·refine xt hb63 (qk (fun e s => C52_0 σ s i4 ∧ eP e 4 i4 ∧ eI e 5 (7 : Int) ∧ Pre σ s) ?_ ?_)
    ·have q22 := X4.same 43 [(.v (.int .i64 (0 : Int))), (.v (.int .i64 (0 : Int)))];refine w_x (cj4 E4 X4.get q22.get TT) ?_;exact qe ⟨q22, E4, (xv (cj4 E4 X4.get q22.get TT)), (hP.set X4.le (some (AObj.box 43 [(.v (.int .i64 (0 : Int))), (.v (.int .i64 (0 : Int)))])))⟩
    rintro e s ⟨X4, E4, E5, hP⟩
    refine qp (zd ?_);obtain rfl := qa h;exact qt (fun _ => rfl) (xr (rs := #[.cell 4 43, .tmp 5]) (cj4 X4.get E4 E5 TT)) hP (.refl _) (.tu (CnL.cons (.ag (CnL.cons (.v _) (CnL.cons (.v _) CnL.nil))) (CnL.cons (.v _) CnL.nil))) hK
   ·refine xf hb63 (qm (qf (qk (fun e s => Bx σ s i4 43 [(.v (.int .i64 v20)), (.v (.int .i64 v21))] ∧ eP e 4 i4 ∧ eI e 5 (0 : Int) ∧ Pre σ s) ?_ ?_)))
    ·have q23 := X4.same 43 [(.v (.int .i64 v20)), (.v (.int .i64 v21))];have q24 := X9.ne N4__9 (some (AObj.box 43 [(.v (.int .i64 v20)), (.v (.int .i64 v21))]));have q25 := cj7 E4 E9 X4.get X9.get q23.get q24.get TT;refine w_x q25 ?_;exact qe ⟨q23, E4, (xv q25), (hP.set X4.le (some (AObj.box 43 [(.v (.int .i64 v20)), (.v (.int .i64 v21))])))⟩
    rintro e s ⟨X4, E4, E5, hP⟩
    refine qp ?_;obtain rfl := qa h;exact qt (fun _ => rfl) (xr (rs := #[.cell 4 43, .tmp 5]) (cj4 X4.get E4 E5 TT)) hP (.refl _) (.tu (CnL.cons (.ag (CnL.cons (.v _) (CnL.cons (.v _) CnL.nil))) (CnL.cons (.v _) CnL.nil))) hK
noncomputable def B_ref02_Right (a0 : Clock) : Option Bool :=
 some ((((decide ((0 : Int) < a0.period)) && (decide (a0.period ≤ (2000 : Int)))) && (decide ((0 : Int) ≤ a0.phase))) && (decide (a0.phase ≤ (2000 : Int))))
theorem W_ref02_Right : Sat_ref02_Right (B_ref02_Right) := by
 intro a0 r h σ K hK;refine qW Try.func61 rfl rfl (by kernel_rfl) ?_;unfold B_ref02_Right at h;have hP := Pre.refl σ;have E0 : qz [(.ag (Clock.cl a0))] 0 = (.ag (Clock.cl a0)) := rfl;have TT := cj4 Clock.cle Expr.rlen T_2 T_43;refine qk (fun e s => ∃ i1 : Nat, Bx σ s i1 43 (Clock.cl a0) ∧ eP e 1 i1 ∧ Pre σ s) ?_ ?_
 ·refine w_x (cj2 E0 TT) ?_;exact qe ⟨σ.length, (Bx.new hP _ _), (xv (cj2 E0 TT)), (hP.app _)⟩
 rintro e s ⟨i1, X1, E1, hP⟩
 refine qk (fun e s => eB e 2 ((((decide ((0 : Int) < a0.period)) && (decide (a0.period ≤ (2000 : Int)))) && (decide ((0 : Int) ≤ a0.phase))) && (decide (a0.phase ≤ (2000 : Int)))) ∧ Pre σ s) ?_ ?_
 ·cases hb1 : (decide ((0 : Int) < a0.period))
  ·refine w_x (cj4 E1 X1.get hb1 TT) ?_;exact qe ⟨(xv (cj4 E1 X1.get hb1 TT)), hP⟩
  ·cases hb2 : (decide (a0.period ≤ (2000 : Int)))
   ·refine w_x (cj5 E1 X1.get hb1 hb2 TT) ?_;exact qe ⟨(xv (cj5 E1 X1.get hb1 hb2 TT)), hP⟩
   ·cases hb3 : (decide ((0 : Int) ≤ a0.phase))
    ·have q1 := cj6 E1 X1.get hb1 hb2 hb3 TT;refine w_x q1 ?_;exact qe ⟨(xv q1), hP⟩
    ·have q2 := cj6 E1 X1.get hb1 hb2 hb3 TT;refine w_x q2 ?_;exact qe ⟨(xv q2), hP⟩
 rintro e s ⟨E2, hP⟩
 refine qp ?_;obtain rfl := qa h;exact qt (fun _ => rfl) (xr (rs := #[.tmp 2]) (cj2 E2 TT)) hP (.refl _) (.v _) hK
end Go.Proofs.Ytohmmfimedgccaa.E
end
section
namespace Go.Proofs.Ytohmmfimedgccaa.E
set_option linter.unusedVariables false
set_option linter.unusedSimpArgs false
set_option maxRecDepth 10000
noncomputable def ZA := B_ref02_Right
theorem zzV : Sat_ref02_Right ZA := W_ref02_Right
noncomputable def Jy := B_ref02_Apply ZA
theorem s_rapply : Sat_ref02_Apply Jy := W_ref02_Apply _ zzV
theorem rr_eq (c : Clock) : ∃ b, ze c = some b ∧ ZA c = some b := by
 refine ⟨_, rfl, ?_⟩;unfold ZA B_ref02_Right
 first | rfl | (congr 1; simp only [Bool.and_assoc, Bool.and_comm, Bool.and_left_comm])
def opFit (o : Op) : Prop := ((o.kind = 3 ∨ o.kind = 4) ∧ 1 ≤ o.n ∧ o.n ≤ 100) ∨ (o.kind = 5 ∧ 0 ≤ o.n ∧ o.n ≤ 100 ∧ 1 ≤ o.d ∧ o.d ≤ 100) ∨ o.kind = 6 ∨ o.kind = 7 ∨ o.kind = 8
theorem v_factor {o : Op} (h : opFit o) : Ye o = some 0 := by
 unfold Ye B_clock_factor;rcases h with ⟨k | k, h1, h2⟩ | ⟨k, h1, h2, h3, h4⟩ | k | k | k
 ·have : ¬ o.n < 1 := by omega
  have : ¬ 100 < o.n := by omega
  simp [k, *]
 ·have : ¬ o.n < 1 := by omega
  have : ¬ 100 < o.n := by omega
  simp [k, *]
 ·have : ¬ o.n < 0 := by omega
  have : ¬ 100 < o.n := by omega
  have : ¬ o.d < 1 := by omega
  have : ¬ 100 < o.d := by omega
  simp [k, *]
 ·simp [k]
 ·simp [k]
 ·simp [k]
theorem apply_eq (c : Clock) {o : Op} (h : opFit o) : ∃ c' e c'' e', zX c o = some (c', e) ∧ Jy c o = some (c'', e') ∧ (e = 0 ↔ e' = 0) ∧ (e = 0 → c'' = c') := by
 obtain ⟨b, hb1, hb2⟩ := rr_eq c;unfold zX B_clock_Apply Jy B_ref02_Apply;rw [v_factor h];simp only [Option.bind_some, hb1, hb2];cases b with
 | false => exact ⟨_, _, _, _, rfl, rfl, by simp, by simp⟩
 | true =>
  have hr : ∀ d, ∃ b, ze d = some b ∧ ZA d = some b := rr_eq;rcases h with ⟨k | k, h1, h2⟩ | ⟨k, h1, h2, h3, h4⟩ | k | k | k
  ·have a1 : ¬ o.n < 1 := by omega
   have a2 : ¬ 100 < o.n := by omega
   have a3 : ¬ o.n = 0 := by omega
   simp only [k, a1, a2, a3, Jb, quoO, decide_true, decide_false, if_true, if_false, Bool.not_true, Bool.not_false, Bool.false_eq_true, Option.bind_some, Int.reduceLT, Int.reduceEq, Bool.or_self, Bool.or_false, Bool.false_or, Bool.and_false, Bool.and_true, Bool.true_and, Bool.false_and];obtain ⟨b, e1, e2⟩ := hr ⟨IntKind.i64.wrap (c.period.tdiv o.n), c.phase⟩;by_cases hm : c.period.tmod o.n = 0
   ·simp only [hm, decide_true, Bool.not_true, Bool.false_eq_true, if_false, Option.bind_some, e1, e2];cases b <;> exact ⟨_, _, _, _, rfl, rfl, by simp, by simp⟩
   ·simp only [decide_eq_false hm, Bool.not_false, if_true, Option.bind_some];exact ⟨_, _, _, _, rfl, rfl, by simp, by simp⟩
  ·have a1 : ¬ o.n < 1 := by omega
   have a2 : ¬ 100 < o.n := by omega
   simp only [k, a1, a2, decide_true, decide_false, if_true, if_false, Bool.not_true, Bool.not_false, Bool.false_eq_true, Option.bind_some, Int.reduceLT, Int.reduceEq, Bool.or_self, Bool.or_false, Bool.false_or, Bool.and_false, Bool.and_true, Bool.true_and, Bool.false_and];obtain ⟨b, e1, e2⟩ := hr ⟨IntKind.i64.wrap (c.period * o.n), c.phase⟩;simp only [e1, e2, Option.bind_some];cases b <;> exact ⟨_, _, _, _, rfl, rfl, by simp, by simp⟩
  ·have a1 : ¬ o.n < 0 := by omega
   have a2 : ¬ 100 < o.n := by omega
   have a3 : ¬ o.d = 0 := by omega
   have a4 : ¬ o.d < 1 := by omega
   have a5 : ¬ 100 < o.d := by omega
   simp only [k, a1, a2, a3, a4, a5, Jb, quoO, decide_true, decide_false, if_true, if_false, Bool.not_true, Bool.not_false, Bool.false_eq_true, Option.bind_some, Int.reduceLT, Int.reduceEq, Bool.or_self, Bool.or_false, Bool.false_or, Bool.and_false, Bool.and_true, Bool.true_and, Bool.false_and];obtain ⟨b, e1, e2⟩ := hr ⟨c.period, IntKind.i64.wrap (c.phase + IntKind.i64.wrap ((IntKind.i64.wrap (c.period * o.n)).tdiv o.d))⟩;by_cases hm : (IntKind.i64.wrap (c.period * o.n)).tmod o.d = 0
   ·simp only [hm, decide_true, Bool.not_true, Bool.false_eq_true, if_false, Option.bind_some, e1, e2];cases b <;> exact ⟨_, _, _, _, rfl, rfl, by simp, by simp⟩
   ·simp only [decide_eq_false hm, Bool.not_false, if_true, Option.bind_some];exact ⟨_, _, _, _, rfl, rfl, by simp, by simp⟩
  ·simp only [k, decide_true, decide_false, if_true, if_false, Bool.not_true, Bool.not_false, Bool.false_eq_true, Option.bind_some, Int.reduceLT, Int.reduceEq, Bool.or_self, Bool.or_false, Bool.false_or, Bool.and_false, Bool.and_true, Bool.true_and, Bool.false_and];obtain ⟨b, e1, e2⟩ := hr c;have e2' : ZA ⟨c.period, c.phase⟩ = some b := e2;simp only [e1, e2', Option.bind_some];cases b <;> exact ⟨_, _, _, _, rfl, rfl, by simp, by simp⟩
  ·simp only [k, decide_true, decide_false, if_true, if_false, Bool.not_true, Bool.not_false, Bool.false_eq_true, Option.bind_some, Int.reduceLT, Int.reduceEq, Bool.or_self, Bool.or_false, Bool.false_or, Bool.and_false, Bool.and_true, Bool.true_and, Bool.false_and];obtain ⟨b, e1, e2⟩ := hr ⟨c.period, IntKind.i64.wrap (c.phase + c.period)⟩;simp only [e1, e2, Option.bind_some];cases b <;> exact ⟨_, _, _, _, rfl, rfl, by simp, by simp⟩
  ·simp only [k, decide_true, decide_false, if_true, if_false, Bool.not_true, Bool.not_false, Bool.false_eq_true, Option.bind_some, Int.reduceLT, Int.reduceEq, Bool.or_self, Bool.or_false, Bool.false_or, Bool.and_false, Bool.and_true, Bool.true_and, Bool.false_and];obtain ⟨b, e1, e2⟩ := hr ⟨c.period, IntKind.i64.wrap (c.phase - c.period)⟩;by_cases hm : c.phase < c.period
   ·have hm' : ¬ c.period ≤ c.phase := by omega
    simp only [decide_eq_true hm, decide_eq_false hm', Bool.not_false, if_true, Option.bind_some];exact ⟨_, _, _, _, rfl, rfl, by simp, by simp⟩
   ·have hm' : c.period ≤ c.phase := by omega
    simp only [decide_eq_false hm, decide_eq_true hm', Bool.not_true, Bool.false_eq_true, if_false, Option.bind_some, e1, e2];cases b <;> exact ⟨_, _, _, _, rfl, rfl, by simp, by simp⟩
end Go.Proofs.Ytohmmfimedgccaa.E
end
section
namespace Go.Proofs.Ytohmmfimedgccaa.E
set_option maxRecDepth 100000
set_option maxHeartbeats 4000000
set_option linter.unusedVariables false
set_option linter.unusedSimpArgs false
noncomputable def B_flat_way (a0 : ByteArray) (a1 : Int) : Option ByteArray :=
 (catO a0 (⟨#[46]⟩ : ByteArray)).bind fun y1 =>
 (catO y1 (Yn ([(IntKind.u8.wrap (IntKind.i64.wrap ((48 : Int) + a1)))]))).bind fun y3 =>
 some y3
theorem W_flat_way : Sat_flat_way (B_flat_way) := by
 intro a0 a1 r h σ K hK;refine qW Try.func95 rfl rfl (by kernel_rfl) ?_;unfold B_flat_way at h;have hP := Pre.refl σ;have E0 : qz [(.v (.string a0)), (.v (.int .i64 a1))] 0 = (.v (.string a0)) := rfl;have E1 : qz [(.v (.string a0)), (.v (.int .i64 a1))] 1 = (.v (.int .i64 a1)) := rfl;have TT := cj5 Expr.rlen T_3 T_5 T_89 T_9;refine qd (w_x Expr.rlen ?_);refine qf (qd ?_);obtain ⟨y1, h2, h⟩ := qb h;obtain ⟨y3, h4, h⟩ := qb h;have R5 : (⟨[UInt8.ofNat (Int.toNat (IntKind.u8.wrap (IntKind.i64.wrap ((48 : Int) + a1))))].toArray⟩ : ByteArray) = Yn ([(IntKind.u8.wrap (IntKind.i64.wrap ((48 : Int) + a1)))]) := rfl;refine w_x (cj8 E0 E1 (qqz h2).1 (qqz h2).2 R5 (qqz h4).1 (qqz h4).2 TT) ?_;refine qf (qp ?_);obtain rfl := qa h;exact qt (fun _ => rfl) (xr (rs := #[.tmp 4]) TT) hP (.refl _) (.v _) hK
end Go.Proofs.Ytohmmfimedgccaa.E
end
section
namespace Go.Proofs.Ytohmmfimedgccaa.E
set_option linter.unusedVariables false
set_option linter.unusedSimpArgs false
set_option maxRecDepth 10000
def zG (to : ByteArray) (i : Nat) : ByteArray := (to ++ ⟨#[46]⟩) ++ Yn [((48 + i : Nat) : Int)]
theorem ba_list (a b : ByteArray) : (a ++ b).data.toList = a.data.toList ++ b.data.toList := by simp
theorem ba_ext {a b : ByteArray} (h : a.data.toList = b.data.toList) : a = b := ByteArray.ext (Array.ext' h)
theorem zzh (to : ByteArray) (i : Nat) : (zG to i).data.toList = to.data.toList ++ [46, UInt8.ofNat (48 + i)] := by
 unfold zG;have h : (Yn [((48 + i : Nat) : Int)]).data.toList = [UInt8.ofNat (48 + i)] := by simp only [Yn, List.map_cons, List.map_nil, Int.toNat_natCast]
 rw [ba_list, ba_list, h, List.append_assoc];rfl
theorem Yu (to : ByteArray) (i : Nat) : (zG to i).size = to.size + 2 := by
 rw [← JW, ← JW, zzh]; simp
noncomputable def JQ := B_flat_way
theorem s_way : Sat_flat_way JQ := W_flat_way
theorem v_way {to : ByteArray} {i : Nat} (hi : i ≤ 40) (hs : to.size ≤ 4611686018427387904) : JQ to (i : Int) = some (zG to i) := by
 unfold JQ B_flat_way catO;have h1 : (⟨#[46]⟩ : ByteArray).size = 1 := rfl;have h2 : ∀ n : Int, (Yn [n]).size = 1 := fun n => rfl;have h3 : (to ++ (⟨#[46]⟩ : ByteArray)).size = to.size + 1 := by rw [ByteArray.size_append]; rfl
 rw [if_pos (by omega)];simp only [Option.bind_some];rw [if_pos (by rw [h3, h2]; omega)];simp only [Option.bind_some];rw [zT (n := (48 : Int) + i) (by omega) (by omega), show IntKind.u8.wrap ((48 : Int) + i) = ((48 + i : Nat) : Int) by simp only [IntKind.wrap, IntKind.signed, IntKind.bits]; simp; omega];rfl
mutual
/-- An expression's parts, outside ahead of inside, with the ways to them. -/
def spE : ByteArray → Expr → List (ByteArray × Expr)
 | to, ⟨k, s, n, d, xs, a⟩ => (to, ⟨k, s, n, d, xs, a⟩) :: spL to 0 xs
def spL : ByteArray → Nat → List Expr → List (ByteArray × Expr)
 | _, _, [] => []
 | to, i, e :: l => spE (zG to i) e ++ spL to (i + 1) l
end
theorem QT (to : ByteArray) (e : Expr) : spE to e = (to, e) :: spL to 0 e.args := by cases e; rw [spE]
theorem spL_app (to : ByteArray) : ∀ (a b : List Expr) (i : Nat), spL to i (a ++ b) = spL to i a ++ spL to (i + a.length) b
 | [], b, i => by simp [spL]
 | e :: l, b, i => by
  rw [List.cons_append, spL, spL, spL_app to l b (i + 1), List.length_cons, List.append_assoc];rw [show i + 1 + l.length = i + (l.length + 1) by omega]
theorem spL_take (to : ByteArray) {l : List Expr} {j : Nat} (h : j < l.length) : spL to 0 (l.take (j + 1)) = spL to 0 (l.take j) ++ spE (zG to j) l[j] := by
 rw [List.take_succ_eq_append_getElem h, spL_app];have : (l.take j).length = j := by simp; omega
 rw [this, spL, spL, List.append_nil, Nat.zero_add]
theorem zzI (to : ByteArray) : ∀ (l : List Expr) (i : Nat), (∀ e ∈ l, ∀ to, (spE to e).length = zJ e) → (spL to i l).length = zz l
 | [], _, _ => by simp [spL, zz]
 | e :: l, i, h => by rw [spL, List.length_append, h e (.head _), zz, zzI to l (i + 1) fun x hx => h x (.tail _ hx)]
theorem spE_len (e : Expr) : ∀ to, (spE to e).length = zJ e := by
 induction e using Expr.induct with
 | h e ih =>
  intro to;rw [QT, List.length_cons, zzI to _ _ ih, Qx];omega
theorem spL_at (to : ByteArray) {l : List Expr} {j k : Nat} (h : j < l.length) {x : ByteArray × Expr} (hx : (spE (zG to j) l[j])[k]? = some x) : (spL to 0 l)[zz (l.take j) + k]? = some x := by
 have h1 : spL to 0 l = spL to 0 (l.take (j + 1)) ++ spL to (0 + (l.take (j + 1)).length) (l.drop (j + 1)) := by rw [← spL_app, List.take_append_drop]
 rw [h1, spL_take to h];have hlen : (spL to 0 (l.take j)).length = zz (l.take j) := zzI to _ _ fun e _ to => spE_len e to;have hk := (List.getElem?_eq_some_iff.1 hx).1;rw [List.getElem?_append_left (by rw [List.length_append, hlen]; omega), List.getElem?_append_right (by omega), hlen, Nat.add_sub_cancel_left];exact hx
theorem spL_way {to : ByteArray} {x : ByteArray × Expr} : ∀ {l : List Expr} {i : Nat}, (∀ e ∈ l, ∀ to x, x ∈ spE to e → ∃ s, x.1.data.toList = to.data.toList ++ s) → x ∈ spL to i l → ∃ (j : Nat) (e : Expr) (s : List UInt8), l[j]? = some e ∧ x ∈ spE (zG to (i + j)) e ∧ x.1.data.toList = to.data.toList ++ 46 :: UInt8.ofNat (48 + (i + j)) :: s
 | [], _, _, h => by simp [spL] at h
 | e :: l, i, hp, h => by
  rw [spL, List.mem_append] at h;rcases h with h | h
  ·obtain ⟨s, hs⟩ := hp e (.head _) _ _ h;exact ⟨0, e, s, rfl, h, by rw [hs, zzh]; simp⟩
  ·obtain ⟨j, e', s, h1, h2, h3⟩ := spL_way (fun e he => hp e (.tail _ he)) h;rw [show i + 1 + j = i + (j + 1) by omega] at h2 h3;exact ⟨j + 1, e', s, h1, h2, h3⟩
theorem spE_way (e : Expr) : ∀ to x, x ∈ spE to e → ∃ s, x.1.data.toList = to.data.toList ++ s := by
 induction e using Expr.induct with
 | h e ih =>
  intro to x hx;rw [QT] at hx;rcases List.mem_cons.1 hx with rfl | hx
  ·exact ⟨[], by simp⟩
  ·obtain ⟨_, _, s, _, _, h⟩ := spL_way ih hx;exact ⟨_, h⟩
theorem ZZ {to : ByteArray} {x : ByteArray × Expr} {l : List Expr} {i : Nat} (h : x ∈ spL to i l) : ∃ (j : Nat) (e : Expr) (s : List UInt8), l[j]? = some e ∧ x ∈ spE (zG to (i + j)) e ∧ x.1.data.toList = to.data.toList ++ 46 :: UInt8.ofNat (48 + (i + j)) :: s := spL_way (fun e _ => spE_way e) h
theorem qqR {e : Expr} {to : ByteArray} {x : ByteArray × Expr} (h : x ∈ spE to e) : ∃ s, x.1.data.toList = to.data.toList ++ s ∧ (s = [] ∨ ∃ s', s = 46 :: s') := by
 rw [QT] at h;rcases List.mem_cons.1 h with rfl | h
 ·exact ⟨[], by simp, .inl rfl⟩
 ·obtain ⟨j, _, s, _, _, h⟩ := ZZ h;exact ⟨_, h, .inr ⟨_, rfl⟩⟩
theorem u8_inj {i j : Nat} (hi : i ≤ 40) (hj : j ≤ 40) (h : UInt8.ofNat (48 + i) = UInt8.ofNat (48 + j)) : i = j := by
 have := congrArg UInt8.toNat h;simp only [UInt8.toNat_ofNat'] at this;omega
theorem spL_nodup {to : ByteArray} : ∀ {l : List Expr} {i : Nat}, i + l.length ≤ 40 → (∀ e ∈ l, ∀ to, ((spE to e).map (·.1)).Nodup) → ((spL to i l).map (·.1)).Nodup
 | [], _, _, _ => by simp [spL]
 | e :: l, i, hl, h => by
  rw [List.length_cons] at hl;rw [spL, List.map_append, List.nodup_append];refine ⟨h e (.head _) _, spL_nodup (by omega) fun e he => h e (.tail _ he), fun a ha b hb hab => ?_⟩;obtain ⟨x, hx, rfl⟩ := List.mem_map.1 ha;obtain ⟨y, hy, rfl⟩ := List.mem_map.1 hb;obtain ⟨s, h1⟩ := spE_way e _ _ hx;obtain ⟨j, _, s', h2, _, h3⟩ := ZZ hy;have hj := (List.getElem?_eq_some_iff.1 h2).1;rw [hab, h3, zzh, List.append_assoc, List.append_cancel_left_eq] at h1;simp only [List.cons_append, List.nil_append, List.cons.injEq, true_and] at h1;have := u8_inj (by omega) (by omega) h1.1;omega
theorem spE_nodup (e : Expr) : e.fit → ∀ to, ((spE to e).map (·.1)).Nodup := by
 induction e using Expr.induct with
 | h e ih =>
  intro hf to;have hlen : e.args.length ≤ 6 := by
   rcases hf.kinds with ⟨k, ha⟩ | ⟨k, hl1, hl2⟩ | ⟨hl, hk⟩
   ·rw [ha]; simp
   ·exact hl2
   ·omega
  rw [QT, List.map_cons, List.nodup_cons];refine ⟨fun h => ?_, spL_nodup (by omega) fun x hx => ih x hx (hf.arg x hx)⟩;obtain ⟨x, hx, h⟩ := List.mem_map.1 h;obtain ⟨j, _, s, _, _, h3⟩ := ZZ hx;rw [h] at h3;have := congrArg List.length h3;simp at this
def spP (fs : List Flow) : List (ByteArray × Expr) := fs.flatMap fun f => spE f.name f.e
theorem spP_app (a b : List Flow) : spP (a ++ b) = spP a ++ spP b := by simp [spP]
theorem nm_cut {f g : ByteArray} (hf : Nm f) (hg : Nm g) {s s' : List UInt8} (hs : s = [] ∨ ∃ t, s = 46 :: t) (hs' : s' = [] ∨ ∃ t, s' = 46 :: t) (h : f.data.toList ++ s = g.data.toList ++ s') : f = g := by
 have key : ∀ (a b s s' : List UInt8), (∀ x ∈ a, x ≠ 46) → (∀ x ∈ b, x ≠ 46) → (s = [] ∨ ∃ t, s = 46 :: t) → (s' = [] ∨ ∃ t, s' = 46 :: t) → a ++ s = b ++ s' → a = b := by
  intro a;induction a with
  | nil =>
   intro b s s' _ hb hs _ h;cases b with
   | nil => rfl
   | cons y b =>
    rcases hs with rfl | ⟨t, rfl⟩
    ·simp at h
    ·simp at h; exact absurd h.1.symm (hb y (.head _))
  | cons x a ih =>
   intro b s s' ha hb hs hs' h;cases b with
   | nil =>
    rcases hs' with rfl | ⟨t, rfl⟩
    ·simp at h
    ·simp at h; exact absurd h.1 (ha x (.head _))
   | cons y b =>
    simp only [List.cons_append, List.cons.injEq] at h;rw [h.1, ih b s s' (fun x hx => ha x (.tail _ hx)) (fun x hx => hb x (.tail _ hx)) hs hs' h.2]
 have mem : ∀ {f : ByteArray}, Nm f → ∀ x ∈ f.data.toList, x ≠ 46 := fun hf x hx => by
  obtain ⟨j, hj⟩ := List.getElem?_of_mem hx;exact hf.1 j x hj
 exact ba_ext (key _ _ s s' (mem hf) (mem hg) hs hs' h)
theorem spP_nodup : ∀ {fs : List Flow}, (∀ f ∈ fs, f.fit) → (fs.map (·.name)).Nodup → ((spP fs).map (·.1)).Nodup
 | [], _, _ => by simp [spP]
 | f :: fs, hf, hn => by
  rw [List.map_cons, List.nodup_cons] at hn;rw [spP, List.flatMap_cons, List.map_append, List.nodup_append];refine ⟨spE_nodup _ (hf f (.head _)).e _, spP_nodup (fun g hg => hf g (.tail _ hg)) hn.2, fun a ha b hb hab => ?_⟩;obtain ⟨x, hx, rfl⟩ := List.mem_map.1 ha;obtain ⟨y, hy, rfl⟩ := List.mem_map.1 hb;obtain ⟨g, hg, hy⟩ := List.mem_flatMap.1 hy;obtain ⟨s, h1, h2⟩ := qqR hx;obtain ⟨s', h3, h4⟩ := qqR hy;rw [hab, h3] at h1;have := nm_cut (hf g (.tail _ hg)).name (hf f (.head _)).name h4 h2 h1;exact hn.1 (List.mem_map.2 ⟨g, hg, this⟩)
def cls (l : List (ByteArray × Expr)) : List (ByteArray × Expr) := l.filter fun x => decide (x.2.kind = 2)
theorem qqM (a b : List (ByteArray × Expr)) : cls (a ++ b) = cls a ++ cls b := by simp [cls]
theorem Ya {l : List (ByteArray × Expr)} {x : ByteArray × Expr} : x ∈ cls l ↔ x ∈ l ∧ x.2.kind = 2 := by simp [cls]
theorem cls_nodup {l : List (ByteArray × Expr)} (h : (l.map (·.1)).Nodup) : ((cls l).map (·.1)).Nodup := h.sublist ((List.filter_sublist).map _)
theorem spE_self (to : ByteArray) (e : Expr) : (to, e) ∈ spE to e := by rw [QT]; exact .head _
theorem spE_trans {e : Expr} {to w : ByteArray} {x : Expr} {j : Nat} (h : (w, x) ∈ spE to e) (hj : j < x.args.length) : (zG w j, x.args[j]) ∈ spE to e := by
 have main : ∀ e : Expr, ∀ to, (w, x) ∈ spE to e → (zG w j, x.args[j]) ∈ spE to e := by
  intro e;induction e using Expr.induct with
  | h e ih =>
   intro to h;rw [QT] at h ⊢;have inL : ∀ {y : ByteArray × Expr} {k : Nat} (hk : k < e.args.length), y ∈ spE (zG to k) e.args[k] → y ∈ spL to 0 e.args := fun {y k} hk hy => by
    obtain ⟨q, hq⟩ := List.getElem?_of_mem hy;exact List.mem_of_getElem? (spL_at to hk hq)
   rcases List.mem_cons.1 h with h | h
   ·injection h with h1 h2;subst h1 h2;exact .tail _ (inL hj (spE_self _ _))
   ·obtain ⟨k, e', s, h1, h2, _⟩ := ZZ h;rw [Nat.zero_add] at h2;obtain ⟨hk, rfl⟩ := List.getElem?_eq_some_iff.1 h1;exact .tail _ (inL hk (ih _ (List.getElem_mem hk) _ h2))
 exact main e to h
theorem spE_fit {e : Expr} (hf : e.fit) {to : ByteArray} {x : ByteArray × Expr} (h : x ∈ spE to e) : x.2.fit := by
 have main : ∀ e : Expr, e.fit → ∀ to, x ∈ spE to e → x.2.fit := by
  intro e;induction e using Expr.induct with
  | h e ih =>
   intro hf to h;rw [QT] at h;rcases List.mem_cons.1 h with rfl | h
   ·exact hf
   ·obtain ⟨k, e', s, h1, h2, _⟩ := ZZ h;exact ih _ (List.mem_of_getElem? h1) (hf.arg _ (List.mem_of_getElem? h1)) _ h2
 exact main e hf to h
theorem spE_sub {e : Expr} {to : ByteArray} {x : ByteArray × Expr} (h : x ∈ spE to e) : x.2 ∈ zC e := by
 have main : ∀ e : Expr, ∀ to, x ∈ spE to e → x.2 ∈ zC e := by
  intro e;induction e using Expr.induct with
  | h e ih =>
   intro to h;rw [QT] at h;rw [Qw];rcases List.mem_cons.1 h with rfl | h
   ·exact .head _
   ·obtain ⟨k, e', s, h1, h2, _⟩ := ZZ h;exact .tail _ (ZY (List.mem_of_getElem? h1) (ih _ (List.mem_of_getElem? h1) _ h2))
 exact main e to h
abbrev Pl := zo
theorem Zv (e : Expr) : 1 ≤ zJ e := by rw [Qx]; omega
theorem sizeL_le_take {l : List Expr} {i : Nat} (h : i < l.length) : zz (l.take i) + zJ l[i] ≤ zz l := by
 have := QQk h;have h2 : zz l = zz (l.take (i + 1)) + zz (l.drop (i + 1)) := by rw [← zzn, List.take_append_drop]
 omega
theorem spL_snd (to : ByteArray) : ∀ (l : List Expr) (i : Nat), (∀ e ∈ l, ∀ to, (spE to e).map (·.2) = zC e) → (spL to i l).map (·.2) = Zz l
 | [], _, _ => by simp [spL, Zz]
 | e :: l, i, h => by rw [spL, List.map_append, h e (.head _), Zz, spL_snd to l (i + 1) fun x hx => h x (.tail _ hx)]
theorem spE_snd (e : Expr) : ∀ to, (spE to e).map (·.2) = zC e := by
 induction e using Expr.induct with
 | h e ih =>
  intro to;rw [QT, List.map_cons, spL_snd to _ _ ih, Qw]
theorem subsE_len (e : Expr) : (zC e).length = zJ e := by rw [← spE_snd e ⟨#[]⟩, List.length_map, spE_len]
def plc (f n : Nat) : List Expr → List Pl
 | [] => []
 | x :: l => (if x.kind = 2 then [⟨(f : Int), (n : Int)⟩] else []) ++ plc f (n + 1) l
theorem plc_len (f : Nat) : ∀ (l : List Expr) (n : Nat), (plc f n l).length ≤ l.length
 | [], n => Nat.le_refl _
 | x :: l, n => by
  have := plc_len f l (n + 1);rw [plc, List.length_append, List.length_cons];split <;> simp <;> omega
def plP (i : Nat) : List Flow → List Pl
 | [] => []
 | f :: fs => plc i 0 (zC f.e) ++ plP (i + 1) fs
theorem plP_len : ∀ {fs : List Flow} (i : Nat), (∀ f ∈ fs, zJ f.e ≤ 100) → (plP i fs).length ≤ 100 * fs.length
 | [], i, _ => Nat.le_refl _
 | f :: fs, i, h => by
  have h1 := plc_len i (zC f.e) 0;have h2 := plP_len (fs := fs) (i + 1) fun g hg => h g (.tail _ hg);have h3 := h f (.head _);rw [subsE_len] at h1;rw [plP, List.length_append, List.length_cons];omega
theorem plc_cls (f : Nat) : ∀ (l : List (ByteArray × Expr)) (n : Nat), (plc f n (l.map (·.2))).length = (cls l).length
 | [], n => rfl
 | y :: l, n => by
  rw [List.map_cons, plc, List.length_append, plc_cls f l (n + 1)];by_cases hk : y.2.kind = 2
  ·rw [if_pos hk]; simp [cls, hk]; omega
  ·rw [if_neg hk]; simp [cls, hk]
theorem plP_cls : ∀ (fs : List Flow) (i : Nat), (plP i fs).length = (cls (spP fs)).length
 | [], i => rfl
 | f :: fs, i => by
  have hc : cls (spP (f :: fs)) = cls (spE f.name f.e) ++ cls (spP fs) := by rw [spP, List.flatMap_cons, qqM]; rfl
  rw [plP, List.length_append, plP_cls fs (i + 1), hc, List.length_append, ← spE_snd f.e f.name, plc_cls]
end Go.Proofs.Ytohmmfimedgccaa.E
end
